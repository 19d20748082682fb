/- A part of the proof of TopUsers. -/
import Derived.Test.YtcjcndnjpedniaaGreatB13
namespace Go.Proofs.YtcjcndnjpedniaaGreat
set_option linter.all false
set_option maxRecDepth 100000
set_option maxHeartbeats 8000000
open Go.RowKit
section
variable {w w' W:Bc} {x:DZ}
theorem U1 (boot:Int) (s:BB) (w:Bc) (z:0<=boot) (cc:boot<=40) (hx:G9 x) (V:s.data.toList=FM boot (some x)) :
  Calls Tryz.prog 84 #[.string s] w (lF w boot (some x)):=by
 obtain⟨cx,ck,cu,cv,cw⟩:=info_parts M7;obtain⟨cy,cl,cr,cs,ct⟩:=info_parts TN;have bh:=Lh fun(W:Bc) (u a ca bv cb bw bx bz c:Nat) (co:Er W u a ca bv cb bw bx bz x)=>Kl boot x c W z cc co hx
 have⟨dl,dm,dh,di,dj,dk,bb⟩:=hx;have bf:=ET bb;have be:s.size<=1000000:=by
  have cd:s.size=(FM boot (some x)).length:=by rw[<- V];rfl
  rw[cd];unfold FM iR;simp only[Ap];have:=BS (n:=boot.toNat) (by omega);have:=BS (n:=1) (by omega);have:=BS (n:=x.value.toNat) (by omega);have:=BS (n:=x.version.toNat) (by omega);have:=BS (n:=x.op.toNat) (by omega);have:=OW (l:=[x.who]) (fun s V=>by rw[Ai.1 V];exact bf) (by simp);omega
 have bd:s.data.toList=BL (boot).toNat++(BL (1:Int).toNat++(BL (x.value).toNat++(BL (x.version).toNat++(BL (1:Int).toNat++(BL (x.op).toNat++(JY [x.who]++[])))))):=by rw[V];unfold FM iR;rw[Dc];rfl
 have ag:=fun W=>JO s W be
 rw[bd] at ag;have ao:=Lh ag;have bn:Hid (∀ W e rest,BP W e (BL (boot).toNat++rest)->Calls Tryz.prog 125 #[zP e,zI 40] W (Rt (zI (boot)) fun w'=>BP w' e rest/\Am (fun o=>o=e) W w')):=by
  intro W e rest z;have:=Ej (most:=40) z (by omega) (by omega);have b:(((boot).toNat:Nat):Int)=boot:=by omega
  rwa [b] at this
 have bo:Hid (∀ W e rest,BP W e (BL ((1:Int)).toNat++rest)->Calls Tryz.prog 125 #[zP e,zI 4] W (Rt (zI ((1:Int))) fun w'=>BP w' e rest/\Am (fun o=>o=e) W w')):=by
  intro W e rest z;have:=Ej (most:=4) z (by omega) (by omega);have b:((((1:Int)).toNat:Nat):Int)=(1:Int):=by omega
  rwa [b] at this
 have bp:Hid (∀ W e rest,BP W e (BL (x.value).toNat++rest)->Calls Tryz.prog 125 #[zP e,zI 4611686018427387904] W (Rt (zI (x.value)) fun w'=>BP w' e rest/\Am (fun o=>o=e) W w')):=by
  intro W e rest z;have:=Ej (most:=4611686018427387904) z (by omega) (by omega);have b:(((x.value).toNat:Nat):Int)=x.value:=by omega
  rwa [b] at this
 have bq:Hid (∀ W e rest,BP W e (BL (x.version).toNat++rest)->Calls Tryz.prog 125 #[zP e,zI 4611686018427387904] W (Rt (zI (x.version)) fun w'=>BP w' e rest/\Am (fun o=>o=e) W w')):=by
  intro W e rest z;have:=Ej (most:=4611686018427387904) z (by omega) (by omega);have b:(((x.version).toNat:Nat):Int)=x.version:=by omega
  rwa [b] at this
 have br:Hid (∀ W e rest,BP W e (BL ((1:Int)).toNat++rest)->Calls Tryz.prog 125 #[zP e,zI 12] W (Rt (zI ((1:Int))) fun w'=>BP w' e rest/\Am (fun o=>o=e) W w')):=by
  intro W e rest z;have:=Ej (most:=12) z (by omega) (by omega);have b:((((1:Int)).toNat:Nat):Int)=(1:Int):=by omega
  rwa [b] at this
 have bs:Hid (∀ W e rest,BP W e (BL (x.op).toNat++rest)->Calls Tryz.prog 125 #[zP e,zI 7] W (Rt (zI (x.op)) fun w'=>BP w' e rest/\Am (fun o=>o=e) W w')):=by
  intro W e rest z;have:=Ej (most:=7) z (by omega) (by omega);have b:(((x.op).toNat:Nat):Int)=x.op:=by omega
  rwa [b] at this
 have bt:Hid (∀ {W e rest},BP W e (JY [x.who]++rest)->Calls Tryz.prog 126 #[zP e] W fun b w'=>∃ A c,b= .returned (.slice A 1 c)/\w'.ownsRow W.heap.size 27 1 (.slice A 1 c) 1 [.string x.who]/\BP w' e rest/\Am (fun o=>o=e) W w'):=Lh fun p=>TQ p (IU bb) fun s V=>by rw[Ai.1 V];exact bf
 clear ag bd V be hx;have dr:Hid (AX (w.alloc (.cells #[zO,zN] 36)) w.heap.size 36 #[zO,zN]):=Lh (AX.new w _ _);have d:Hid (Au w (w.alloc (.cells #[zO,zN] 36))):=Lh ((Aa _ w).alloc _);go_in;go_upto_region 1 with(fail)
 obtain⟨am,aj⟩:∃ u,u=w.heap.size:=⟨_,rfl⟩
 generalize w.alloc (.cells #[zO,zN] 36)=cz at dr d ⊢;rw[<- aj] at dr ⊢;have bj:=Lh aj;clear aj;go_wp2_with fail;refine(ao.out _).mono ?_;rintro b dn ⟨rfl,j,k⟩;obtain⟨e,U⟩:∃ e,e=cz.heap.size:=⟨_,rfl⟩
 rw[<- U] at j ⊢;have Q:Hid (w.heap.size<=e):=Lh (by rw[U];exact d.out.size);clear U;replace dr:=Lh (dr.out.Ab k id);replace d:=Lh (d.out.to k);have f:=Lh j;clear k j ao;go_upto_region 3 with(go_at_call 125;refine(bn.out _ _ _ f.out).mono ?_;rintro b m ⟨rfl,j,g⟩;have i:=f.out;replace dr:=Lh (dr.out.Ab g (BP.far i dr.out (by decide)));replace d:=Lh (d.out.AJ g fun o k b=>by have:=Q.out;omega);replace f:=Lh j;clear g j i)
 have ab:Hid (w.heap.size<=m.heap.size):=Lh d.out.size;have ap:Hid (am<m.heap.size):=Lh dr.out.lt;have dq:Hid (AX (m.alloc (.cells #[zI boot,zN] 36)) m.heap.size 36 #[zI boot,zN]):=Lh (AX.new m _ _);replace dr:=Lh (dr.out.alloc (.cells #[zI boot,zN] 36));replace f:=Lh (f.out.AB ((Aa _ m).alloc (.cells #[zI boot,zN] 36)));replace d:=Lh (d.out.alloc (.cells #[zI boot,zN] 36));obtain⟨C,ak⟩:∃ u,u=m.heap.size:=⟨_,rfl⟩
 generalize m.alloc (.cells #[zI boot,zN] 36)=H at dr f d dq ⊢;rw[<- ak] at dq ⊢;have ah:=Lh ak;clear ak;have bl:Hid (w.heap.size<=C):=Lh (by have:=ah.out;have:=ab.out;omega);have bk:Hid (am<C):=Lh (by have:=ah.out;have:=ap.out;omega);clear ah ab ap;go_wp2_with (go_at_call 125;refine(bo.out _ _ _ f.out).mono ?_;rintro b m ⟨rfl,j,g⟩;have i:=f.out;replace dr:=Lh (dr.out.Ab g (BP.far i dr.out (by decide)));replace dq:=Lh (dq.out.Ab g (BP.far i dq.out (by decide)));replace d:=Lh (d.out.AJ g fun o k b=>by have:=Q.out;omega);replace f:=Lh j;clear g j i);refine wp_loop_rounds 2 ?_;rw[rounds_succ];go_upto_region 6 with(first
  |(go_at_call 125;(with_reducible refine(bp.out _ _ _ f.out).mono ?_);rintro b m ⟨rfl,j,g⟩;have i:=f.out;replace dr:=Lh (dr.out.Ab g (BP.far i dr.out (by decide)));replace dq:=Lh (dq.out.Ab g (BP.far i dq.out (by decide)));replace d:=Lh (d.out.AJ g fun o k b=>by have:=Q.out;omega);replace f:=Lh j;clear g j i)
  |(go_at_call 125;(with_reducible refine(bq.out _ _ _ f.out).mono ?_);rintro b m ⟨rfl,j,g⟩;have i:=f.out;replace dr:=Lh (dr.out.Ab g (BP.far i dr.out (by decide)));replace dq:=Lh (dq.out.Ab g (BP.far i dq.out (by decide)));replace d:=Lh (d.out.AJ g fun o k b=>by have:=Q.out;omega);replace f:=Lh j;clear g j i))
 have ab:Hid (w.heap.size<=m.heap.size):=Lh d.out.size;have h:Hid (AX (m.alloc (.cells #[zI x.value,zN,zI x.version] 43)) m.heap.size 43 #[zI x.value,zN,zI x.version]):=Lh (AX.new m _ _);replace dr:=Lh (dr.out.alloc (.cells #[zI x.value,zN,zI x.version] 43));replace dq:=Lh (dq.out.alloc (.cells #[zI x.value,zN,zI x.version] 43));replace f:=Lh (f.out.AB ((Aa _ m).alloc (.cells #[zI x.value,zN,zI x.version] 43)));replace d:=Lh (d.out.alloc (.cells #[zI x.value,zN,zI x.version] 43));obtain⟨E,al⟩:∃ u,u=m.heap.size:=⟨_,rfl⟩
 generalize m.alloc (.cells #[zI x.value,zN,zI x.version] 43)=H at dr dq f d h ⊢;rw[<- al] at h ⊢;have au:=Lh al;clear al;have bm:Hid (w.heap.size<=E):=Lh (by have:=au.out;have:=ab.out;omega);clear au ab;go_wp2_with (go_at_call 125;refine(br.out _ _ _ f.out).mono ?_;rintro b m ⟨rfl,j,g⟩;have i:=f.out;replace dr:=Lh (dr.out.Ab g (BP.far i dr.out (by decide)));replace dq:=Lh (dq.out.Ab g (BP.far i dq.out (by decide)));replace h:=Lh (h.out.Ab g (BP.far i h.out (by decide)));replace d:=Lh (d.out.AJ g fun o k b=>by have:=Q.out;omega);replace f:=Lh j;clear g j i);refine wp_loop_rounds 2 ?_;rw[rounds_succ];have Z:=dq.out.cell 0;have aa:=dq.out.cell 1;have dc:=h.out.cell 0;have af:Cl m E 1 (zN):=h.out.cell 1;have dd:=h.out.cell 2;go_upto_region 8 with(fail)
 refine EQ 10 (S:=fun W=>Cl W E 1 (zN)) (by kernel_rfl) af fun dt=>?_
 replace dr:=Lh dr.out.drew;replace dq:=Lh dq.out.drew;replace h:=Lh h.out.drew;replace f:=Lh (f.out.AB ((Aa _ m).drew));replace d:=Lh d.out.drew;generalize m.drew=H at dr dq h f d dt ⊢;clear Z aa dc af dd;refine MN 0 25 (v:=?_) ⟨_,rfl,rfl,by rfl,?_⟩ (by kernel_rfl) (by kernel_rfl) (by kernel_rfl) (by kernel_rfl) (by kernel_rfl) (by kernel_rfl) (fun _ _ _ p=>p) dt ?_;rotate_left
 ·(intro w I;(try dsimp only at I);go_simp;try with_reducible rfl)
 simp only[Act.put,AZ,Bq,Bi];refine MN 1 26 (v:=?_) ⟨_,rfl,rfl,by rfl,?_⟩ (by kernel_rfl) (by kernel_rfl) (by kernel_rfl) (by kernel_rfl) (by kernel_rfl) (by kernel_rfl) (fun _ _ _ p=>p) dt ?_;rotate_left
 ·(intro w I;(try dsimp only at I);go_simp;try with_reducible rfl)
 simp only[Act.put,AZ,Bq,Bi];refine MN 2 27 (v:=?_) ⟨_,rfl,rfl,by rfl,?_⟩ (by kernel_rfl) (by kernel_rfl) (by kernel_rfl) (by kernel_rfl) (by kernel_rfl) (by kernel_rfl) (fun _ _ _ p=>p) dt ?_;rotate_left
 ·(intro w I;(try dsimp only at I);go_simp;try with_reducible rfl)
 simp only[Act.put,AZ,Bq,Bi];refine MN 4 29 (v:=?_) ⟨_,rfl,rfl,by rfl,?_⟩ (by kernel_rfl) (by kernel_rfl) (by kernel_rfl) (by kernel_rfl) (by kernel_rfl) (by kernel_rfl) (fun _ _ _ p=>p) dt ?_;rotate_left
 ·(intro w I;(try dsimp only at I);go_simp;try with_reducible rfl)
 simp only[Act.put,AZ,Bq,Bi];refine I7 3 (by kernel_rfl) rfl fun D q=>?_
 go_simp;go_at_call 125;refine(bs.out _ _ _ f.out).mono ?_;rintro b m ⟨rfl,j,g⟩;have i:=f.out;replace dr:=Lh (dr.out.Ab g (BP.far i dr.out (by decide)));replace dq:=Lh (dq.out.Ab g (BP.far i dq.out (by decide)));replace h:=Lh (h.out.Ab g (BP.far i h.out (by decide)));replace d:=Lh (d.out.AJ g fun o k b=>by(have:=Q.out;omega));replace f:=Lh j;clear g j i;go_wp2;refine q.out _ _ (h.out.cell 1) fun dt=>?_
 clear q D;refine I7 5 (by kernel_rfl) rfl fun D q=>?_
 go_simp;go_at_call 126;refine(bt.out f.out).mono ?_;have cf:=d.out.size;rintro b H ⟨df,ae,rfl,ai,j,g⟩;have i:=f.out;replace dr:=Lh (dr.out.Ab g (BP.far i dr.out (by decide)));replace dq:=Lh (dq.out.Ab g (BP.far i dq.out (by decide)));replace h:=Lh (h.out.Ab g (BP.far i h.out (by decide)));replace d:=Lh (d.out.AJ g fun o k b=>by(have:=Q.out;omega));replace f:=Lh j;clear g j i;obtain⟨Y,dg,cq,_,_⟩:=World.ownsRow.form ai (by omega);cases cq;have ds:Hid (H.ownsRow w.heap.size 27 1 (zS Y 0 1 ae) 1 [.string x.who]):=Lh (Du ai cf);clear ai;go_wp2;refine q.out _ _ (h.out.cell 1) fun dt=>?_
 clear q D;refine MN 6 31 (v:=?_) ⟨_,rfl,rfl,by rfl,?_⟩ (by kernel_rfl) (by kernel_rfl) (by kernel_rfl) (by kernel_rfl) (by kernel_rfl) (by kernel_rfl) (fun _ _ _ p=>p) dt ?_;rotate_left
 ·(intro w I;(try dsimp only at I);go_simp;try with_reducible rfl)
 simp only[Act.put,AZ,Bq,Bi];refine I7 7 (by kernel_rfl) rfl fun D q=>?_
 go_simp;refine q.out _ _ ((h.out.alloc _).cell 1) fun dt=>?_
 clear q D;refine I7 8 (by kernel_rfl) rfl fun D q=>?_
 rw[AQ (by rfl)];refine wp_append_lies _ (.tmp 26) (.tmp 32) 41 rfl H.heap.size 40 cx _ 2 32 Tryz.underlying41 ck cu cv cw rfl (by omega) (zN) 0 [] rfl (World.ownsRow_nil _ _ _ _) (zA H.heap.size 0) 1 1 [zI x.op,zS Y 0 1 ae] rfl rfl (World.news_of_block (cs:=#[zI x.op,zS Y 0 1 ae]) (t:=40) (fr:=(0,0)) (heap_alloc_new H _)) (by simp[Value.oneCell']) (by omega) (by unfold maxLen;omega) (by omega) (by simp) (H.heap.size+1) (by simp) ?_;intro F K M av ay cg cm;rw[Ga 33 (by rfl)];dsimp only[Act.put,AZ,Bq,Bi];have R:Au H M:=((T0 H).alloc _).grown ay fun B b=>by cases b
 replace dr:=Lh (dr.out.Ab R id);replace dq:=Lh (dq.out.Ab R id);replace h:=Lh (h.out.Ab R id);replace ds:=Lh (Aj ds.out R fun _ _ p=>p);replace f:=Lh (f.out.AB R);have y:=Lh (Du av (base':=w.heap.size) (d.out.size));replace d:=Lh (d.out.to R);clear av ay cg cm R;refine q.out _ _ (h.out.cell 1) fun dt=>?_
 clear q D;refine I7 9 (by kernel_rfl) rfl fun D q=>?_
 go_simp;refine q.out _ _ (h.out.cell 1) fun dt=>?_
 clear q D;refine zl fun D q=>?_
 have af:Cl M E 1 (zN):=h.out.cell 1;have de:=h.out.frozen 1;go_simp;refine q.out _ _ ?_;clear q D;refine zd ?_;have r:Am (fun B=>B=E) M (M.setCell (zA E 1) (zS F 0 1 K)):=(Aa (fun B=>B=E) M).setCell (p:=zA E 1) (fun _=>rfl) _;have ar:Hid (AX (M.setCell (zA E 1) (zS F 0 1 K)) E 43 #[zI x.value,zS F 0 1 K,zI x.version]):=Lh (h.out.Dw 1 (zS F 0 1 K));replace dr:=Lh (dr.out.Ab r (AX.GJ dr.out h.out (by decide)));replace dq:=Lh (dq.out.Ab r (AX.GJ dq.out h.out (by decide)));replace ds:=Lh (Aj ds.out r fun u J b=>Ba ds.out h.out (by decide) (by rw[<- b];exact J));replace y:=Lh (Aj y.out r fun u J b=>Ba y.out h.out (by decide) (by rw[<- b];exact J));replace f:=Lh (f.out.Ab r fun b=>by
  obtain⟨ad,U⟩:=f.out.Xv;exact AX.GJ U h.out (by decide) b)
 replace d:=Lh (d.out.AJ r fun B hq b=>by have:=bm.out;omega);replace h:=ar;clear ar;generalize M.setCell (zA E 1) (zS F 0 1 K)=N at dr dq ds y f d h r ⊢;clear r af de dt;go_wp2;rw[rounds_succ];have Z:=dq.out.cell 0;have aa:Cl N C 1 (zN):=dq.out.cell 1;have ba:=d.out.size;go_upto_region 11 with(first
  |(refine AA rfl (.tmp 6) rfl rfl h.out Tryz.underlying43 rfl LV ?_)
  |(at_builtin;go_must (refine wpList_append_lies _ rfl (.tmp 37) (.tmp 39) 34 rfl N.heap.size 43 cy _ 3 40 Tryz.underlying34 cl cr cs ct rfl (by omega) (zN) 0 [] rfl (World.ownsRow_nil _ _ _ _) (zA N.heap.size 0) 1 1 [zI x.value,zS F 0 1 K,zI x.version] rfl rfl (World.news_of_block (cs:=#[zI x.value,zS F 0 1 K,zI x.version]) (t:=43) (fr:=(0,0)) (heap_alloc_new N _)) (by simp[Value.oneCell']) (by omega) (by unfold maxLen;omega) (by omega) (by simp) (N.heap.size+1) (by simp) ?_);intro G L O aw az ch cn;have T:Au N O:=((T0 N).alloc _).grown az (fun B b=>by cases b);replace dr:=Lh (dr.out.Ab T id);replace dq:=Lh (dq.out.Ab T id);replace ds:=Lh (Aj ds.out T fun _ _ p=>p);replace y:=Lh (Aj y.out T fun _ _ p=>p);replace f:=Lh (f.out.AB T);have P:=Lh (Du aw (base':=w.heap.size) ba);replace d:=Lh (d.out.to T);clear aw az ch cn T;have da:Cl O C 1 (zN):=dq.out.cell 1;have db:=dq.out.frozen 1))
 have r:Am (fun B=>B=C) O (O.setCell (zA C 1) (zS G 0 1 L)):=(Aa (fun B=>B=C) O).setCell (p:=zA C 1) (fun _=>rfl) _;have aq:Hid (AX (O.setCell (zA C 1) (zS G 0 1 L)) C 36 #[zI boot,zS G 0 1 L]):=Lh (dq.out.Dw 1 (zS G 0 1 L));have bc:am≠C:=by have:=bk.out;omega
 replace dr:=Lh (dr.out.Ab r bc);replace ds:=Lh (Aj ds.out r fun u J b=>Ba ds.out dq.out (by decide) (by rw[<- b];exact J));replace y:=Lh (Aj y.out r fun u J b=>Ba y.out dq.out (by decide) (by rw[<- b];exact J));replace P:=Lh (Aj P.out r fun u J b=>Ba P.out dq.out (by decide) (by rw[<- b];exact J));replace f:=Lh (f.out.Ab r fun b=>by
  obtain⟨ad,U⟩:=f.out.Xv;exact AX.GJ U dq.out (by decide) b)
 replace d:=Lh (d.out.AJ r fun B hq b=>by have:=bl.out;omega);replace dq:=aq;clear aq;generalize O.setCell (zA C 1) (zS G 0 1 L)=dp at dr dq ds y f d P r ⊢;have bi:Hid (w.heap.size<=G/\w.heap.size<=F/\w.heap.size<=Y):=Lh ⟨BQ (g:=G) P.out (by simp[Value.ownBlock]),BQ (g:=F) y.out (by simp[Value.ownBlock]),BQ (g:=Y) ds.out (by simp[Value.ownBlock])⟩;clear r Z aa da db ba bc;have X:=Lh (Qa P.out y.out ds.out);clear P y ds;go_wp2;rw[rounds_succ];have Z:=dq.out.cell 0;have aa:=dq.out.cell 1;go_wp2_with (first
  |(go_at_call 127;refine(Jb f.out).mono ?_;rintro b M ⟨rfl,k⟩;replace dr:=Lh (dr.out.Ab k id);replace dq:=Lh (dq.out.Ab k id);replace X:=Lh (X.out.AB k);replace d:=Lh (d.out.to k);clear k Z aa;have Z:=dq.out.cell 0;have aa:=dq.out.cell 1)
  |(go_at_call 70;refine(bh.out _ _ _ _ _ _ _ _ _ _ X.out).mono ?_;rintro b N ⟨rfl,k⟩;replace dr:=Lh (dr.out.Ab k id);replace dq:=Lh (dq.out.Ab k id);replace X:=Lh (X.out.AB k);replace d:=Lh (d.out.to k);clear k)
  |(refine AA rfl (.tmp 5) rfl rfl dq.out Tryz.underlying36 rfl Ep ?_)
  |(refine Bo rfl (.tmp 2) (.tmp 52) rfl rfl (cs':=#[zI boot,zS G 0 1 L]) rfl dr.out Ep rfl (by simp[Value.oneCell']) ?_;intro O ce ax cp;clear cp))
 refine bodyPost_ret (v:=.tuple #[.agg #[zI boot,zS G 0 1 L],zO]) (CB (p:=2) (q:=3) Tryz.results84 _ rfl rfl ce Tryz.underlying36 rfl Ep) rfl ?_;refine⟨_,rfl,⟨G,0,L,F,0,Y,0,K,ae,rfl,X.out.Ab ax fun o ci b=>?_,bi.out⟩,d.out.AJ ax fun o k b=>by have:=bj.out;omega⟩;subst b;obtain⟨t,ad,cj,ht⟩:=ci;refine AX.GJ cj dr.out ?_ rfl;rcases ht with rfl|rfl|rfl<;>decide
end

theorem eY {now b:List UInt8} {i:Nat} (d:now.length=2080) (c:i<65):((SH now i b).drop (i*32)).take b.length=b:=by
 unfold SH;have a:(now.take (i*32)).length=i*32:=by rw[BA];omega
 rw[List.drop_left' a,Ff];rfl
theorem eZ {now b:List UInt8}:(SH now 0 b).take b.length=b:=by
 unfold SH;rw[FU,Ei,BU,Ff];rfl
theorem YS {now b:List UInt8} {x:Nat} (c:b.length<=32) (hx:1<=x):(SH now 0 b).drop (x*32)=now.drop (x*32):=by
 unfold SH;rw[FU,Ei,BU,Bz,<- BJ];have a:(b++List.replicate (32-b.length) 0).length=32:=by rw[Ap,Dg];omega
 rw[show x*32=32+(x-1)*32 by omega,<- FO,List.drop_left' a,FO]
theorem Tz {now:List UInt8} {x m half':Nat} {s:BB}:(Jj now x m half' s).take 11=IC m half' s.size:=by
 unfold Jj;have:=eZ (now:=SH now x s.data.toList) (b:=IC m half' s.size);exact this
theorem V4 {now:List UInt8} {x m half':Nat} {s:BB} (a:now.length=2080) (hx:1<=x) (b:x<65):((Jj now x m half' s).drop (x*32)).take s.size=s.data.toList:=by
 unfold Jj;rw[YS (by simp[IC]) hx];exact eY a b
section
variable {w w' W:Bc} {d nb sb pb:Nat}
theorem Qm {boot:Int} {d:Option DZ}:1<=(FM boot d).length:=by
 have c:∀ a,1<=(BL a).length:=fun a=>by
  by_cases b:a<128
  ·rw[JX b];simp
  ·rw[LZ b];simp
 rcases d with _|e
 ·unfold FM;rw[Ap];have:=c 0;omega
 ·unfold FM;rw[Ap];have:=c boot.toNat;omega
theorem MC (boot:Int) (A:Option Addr) (n c:Nat) (a:Option DZ) (w:Bc) (d:0<=boot) (e:boot<=40) (f:Ll w (.slice A n c) a) (i:∀ x,a=some x->G9 x) :
  Calls Tryz.prog 46 #[.agg #[zI boot,.slice A n c]] w (Rt (.tuple #[.string (Dy (FM boot a)),zO]) (Au w)):=by
 rcases a with _|x
 ·obtain⟨j,g,b⟩:=f;cases b;exact U2 boot A c w d e
 ·obtain⟨q,k,g,r,l,s,m,o,p,b,h⟩:=f;cases b;exact U3 boot c w d e h (i x rfl)
theorem PD (a:Ef w d nb sb pb (List.replicate 2080 0)) (A:Option Addr) (n c:Nat) (f:Option DZ) (v:Ll w (.slice A n c) f) (u:∀ x,f=some x->G9 x) (J:(FM 0 f).length<=32) :
  Calls Tryz.prog 24 #[zP d,.agg #[zO,.slice A n c]] w (Rt zO fun w'=>Ef w' d nb sb pb (Jj (List.replicate 2080 0) 33 1 1 (Dy (FM 0 f)))/\Am (Ha nb sb pb) w w'):=by
 have k:=Lh fun W (h:Au w W)=>MC 0 A n c f W (by omega) (by omega) (v.AB h) u
 have z:=Lh fun W (h:Au w W)=>Rf (a.AB h) 0 0 0 (by omega) (by omega) (by omega) (by rfl) [] (by rw[Ei])
 have j:=Lh fun W (h:Au w W) i (H:AX W i 183 (Ij d ((0:Nat):Int) ((0:Nat):Int) (Dy [])))=>Mw (x:=33) (m:=1) (half':=1) (a.AB h) H (by omega) (by omega) (by omega) (by omega) (Dy (FM 0 f)) (by rw[E5];exact J) (by rw[E5];exact Qm)
 have g:Hid (AX (w.alloc (.cells #[zO,.slice A n c] 36)) w.heap.size 36 #[zO,.slice A n c]):=Lh (AX.new w _ _);have b:Hid (Au w (w.alloc (.cells #[zO,.slice A n c] 36))):=Lh ((Aa _ w).alloc _);clear a v u;obtain⟨o,s⟩:∃ o,o=Dy (FM 0 f):=⟨_,rfl⟩
 rw[<- s] at k j ⊢;clear s;go_in;go_upto_region 1 with(fail)
 obtain⟨Q,y⟩:∃ F,F=w.heap.size:=⟨_,rfl⟩
 generalize w.alloc (.cells #[zO,.slice A n c] 36)=L at g b ⊢;rw[<- y] at g ⊢;clear y;go_upto_region 2 with(first
  |(refine AA rfl (.tmp 3) rfl rfl g.out Tryz.underlying36 rfl Ep ?_)
  |(go_at_call 46;refine(k.out _ b.out).mono ?_;rintro p M ⟨rfl,e⟩;replace g:=Lh (g.out.Ab e id);replace b:=Lh (b.out.to e);clear e))
 have P:=g.out.cell 0;go_wp2_with (first
  |(go_at_call 47;refine(z.out _ b.out).mono ?_;rintro p N ⟨i,rfl,q,I,e⟩;have B:=Lh q;have D:Hid (w.heap.size<=i):=Lh (by have:=b.out.size;omega);have l:=Lh (b.out.to e);clear e q I)
  |(go_at_call 48;refine(j.out _ l.out _ B.out).mono ?_;rintro p O ⟨rfl,r,G,t⟩;have C:=Lh r;have E:=Lh t;clear r G t))
 go_ret;refine⟨rfl,C.out,(l.out.mono fun _ _ a=>a.elim).AJ E.out fun K e a=>?_⟩;rcases a with a|a
 ·exact a
 ·exfalso;have:=D.out;omega
end

def Vq (op arg:Int):Array Value:=#[zO,zI op,zI arg,zO,zN]
structure G8 (op arg:Int):Prop where
 o:op=0∨op=1
 a0:0<=arg
 a1:arg<=65535
 z:op=0->arg=0
section
variable {w w' W:Bc} {g a g2 a2 g3 a3 c2 c3:Nat} {x:DZ}
theorem IE:(Tryz.prog.info? 48).map (·.size)=some 5:=by kernel_rfl
theorem MS (op arg:Int) (w:Bc) (d:G8 op arg) :
  Calls Tryz.prog 100 #[.agg (Vq op arg)] w (Rt (.bool true) (Au w)):=by
 have a:=Lh fun W=>ME arg W
 have c:GA arg=true:=by unfold GA;rw[Bb];exact⟨d.a0,by have:=d.a1;omega⟩
 rw[c] at a;have b:Hid (Au w (w.alloc (.cells (Vq op arg) 48))):=Lh ((Aa _ w).alloc _);have e:Vq op arg=#[zO,zI op,zI arg,zO,zN]:=rfl;rw[e] at b ⊢;obtain⟨h,_,_,f⟩:=d;rcases h with rfl|rfl
 ·obtain rfl:=f rfl;clear c e f;go_in;go_wp2_with (go_at_call 118;refine(a.out _).mono ?_;rintro g i ⟨rfl,rfl⟩);go_ret;exact⟨rfl,b.out⟩
 ·clear c e f;go_in;go_wp2_with (go_at_call 118;refine(a.out _).mono ?_;rintro g i ⟨rfl,rfl⟩);go_ret;exact⟨rfl,b.out⟩
def qG (w w':Bc) (x:DZ) (e:Ending):Prop:=∃ c a d b,e= .returned (zS c 0 1 a)/\w'.ownsRow w.heap.size 40 2 (zS c 0 1 a) 1 [zI x.op,zS d 0 1 b]/\w'.ownsRow w.heap.size 27 1 (zS d 0 1 b) 1 [.string x.who]
theorem VW:∀ W:Bc,(Instr.makeSlice 41 (zI 1) (zI 1)).run Tryz.prog W= .ok (zS W.heap.size 0 1 1) (W.alloc (.cells #[zO,zN] 40)):=fun W=>by kernel_rfl
theorem Qg {base e size n b:Nat} {cs:Array Value} (c:AX w b e cs) (d:base<=b) (a:cs.size=n*size) (f:n<=maxLen):w.ownsRow base e size (zS b 0 n n) n cs.toList :=
 ⟨by simp[a],.inr ⟨b,n,cs,rfl,d,c,AY _,f,a,Bt (by simp[a])⟩⟩
theorem TE (w:Bc) (G:Er w g a g2 a2 g3 a3 c2 c3 x) :
  Calls Tryz.prog 258 #[zS g2 a2 1 c2] w fun e w'=>qG w w' x e/\Au w w':=by
 obtain⟨ab,T,Y,Z,aa⟩:=info_parts Iz;have U:=VW w;have b:Hid (AX (w.alloc (.cells #[zO,zN] 40)) w.heap.size 40 #[zO,zN]):=Lh (AX.new w _ _);have f:Hid (Au w (w.alloc (.cells #[zO,zN] 40))):=Lh ((Aa _ w).alloc _);have h:=Lh (G.AB f.out);clear G;go_in;go_wp2_with fail;obtain⟨c,z⟩:∃ g,g=w.heap.size:=⟨_,rfl⟩
 generalize w.alloc (.cells #[zO,zN] 40)=n at b f h ⊢;rw[<- z] at b ⊢;have B:=Lh z;clear z U;refine wp_loop_rounds 2 ?_;rw[rounds_succ];have M:=h.out.e0;have N:=h.out.e1;have d:Hid (AX (n.alloc (.cells #[zI x.op,zS g3 a3 1 c3] 40)) n.heap.size 40 #[zI x.op,zS g3 a3 1 c3]):=Lh (AX.new n _ _);go_upto_region 5 with(fail)
 replace b:=Lh (b.out.alloc (.cells #[zI x.op,zS g3 a3 1 c3] 40));replace h:=Lh (h.out.AB ((Aa _ n).alloc (.cells #[zI x.op,zS g3 a3 1 c3] 40)));replace f:=Lh (f.out.alloc (.cells #[zI x.op,zS g3 a3 1 c3] 40));obtain⟨y,H⟩:∃ g,g=n.heap.size:=⟨_,rfl⟩
 generalize n.alloc (.cells #[zI x.op,zS g3 a3 1 c3] 40)=u at d b f h ⊢;rw[<- H] at d ⊢;have I:Cl u y 0 (zI x.op):=d.out.cell 0;have J:Cl u y 1 (zS g3 a3 1 c3):=d.out.cell 1;clear H M N;refine EQ 9 (S:=fun W=>Cl W y 0 (zI x.op)/\Cl W y 1 (zS g3 a3 1 c3)) (by kernel_rfl) ⟨I,J⟩ fun i=>?_
 replace d:=Lh d.out.drew;replace b:=Lh b.out.drew;replace h:=Lh (h.out.AB ((Aa _ u).drew));replace f:=Lh f.out.drew;generalize u.drew=v at d b h f i ⊢;clear I J;refine zq 0 16 i ?_;refine zq 1 17 i ?_;refine zq 2 18 i ?_;refine zq 3 19 i ?_;refine zq 4 20 i ?_;refine zq 5 21 i ?_;refine I7 6 (by kernel_rfl) rfl fun o k=>?_
 rw[AQ (by rfl)];refine J3 (V:=Value.string) (.const (zN)) (.tmp 21) 29 rfl v.heap.size 27 ab _ 1 16 Tryz.underlying29 T Y Z aa rfl (by omega) (fun _=>rfl) MK (zN) 0 [] rfl (World.ownsRow_nil _ _ _ _) v.heap.size (some (zA g3 a3)) 1 c3 [x.who] rfl rfl h.out.reads (by unfold maxLen;omega) (by omega) (AY _) ?_;intro ac j s F;rw[Ga 22 (by rfl)];dsimp only[Act.put,AZ,Bq,Bi];have q:Au v j:=(T0 v).grown F fun r e=>by cases e
 obtain⟨m,l,X,R,_⟩:=World.ownsRow.form s (by omega);cases X;replace d:=Lh (d.out.Ab q id);replace b:=Lh (b.out.Ab q id);replace h:=Lh (h.out.AB q);have D:Hid (j.ownsRow w.heap.size 27 1 (zS m 0 1 l) 1 [.string x.who]):=Lh (Du (by rw[BU,I8 (V:=Value.string) fun _=>rfl] at s;exact s) f.out.size);replace f:=Lh (f.out.to q);clear s F q R;refine k.out _ _ ⟨d.out.cell 0,d.out.cell 1⟩ fun i=>?_
 clear k o;refine zq 7 23 i ?_;refine I7 8 (by kernel_rfl) rfl fun o k=>?_
 go_simp;refine k.out _ _ ⟨d.out.cell 0,d.out.cell 1⟩ fun i=>?_
 clear k o;refine zl fun o k=>?_
 have O:=b.out.frozen 0;have P:=b.out.frozen 1;have K:Cl j c 0 zO:=b.out.cell 0;have L:Cl j c 1 (zN):=b.out.cell 1;go_simp;refine k.out _ _ ?_;clear k o;refine zd ?_;have t:Am (fun r=>r=c) j ((j.setCell (zA c 0) (zI x.op)).setCell (zA c 1) (zS m 0 1 l)):=((Aa (fun r=>r=c) j).setCell (p:=zA c 0) (fun _=>rfl) _).setCell (p:=zA c 1) (fun _=>rfl) _;have A:Hid (AX ((j.setCell (zA c 0) (zI x.op)).setCell (zA c 1) (zS m 0 1 l)) c 40 #[zI x.op,zS m 0 1 l]):=Lh ((b.out.Dw 0 (zI x.op)).Dw 1 (zS m 0 1 l));have E:=Lh (Aj D.out t fun g Q e=>Ba D.out b.out (by decide) (by rw[<- e];exact Q));have C:=Lh (f.out.AJ t fun r hq e=>by have:=B.out;omega);generalize (j.setCell (zA c 0) (zI x.op)).setCell (zA c 1) (zS m 0 1 l)=ad at A E C t ⊢;clear t O P K L i;go_wp2;rw[rounds_succ];go_wp2;go_ret;exact⟨⟨c,1,m,l,rfl,Qg A.out (by have:=B.out;omega) (by simp) (by unfold maxLen;decide),E.out⟩,C.out⟩
end

section
variable {w w' W:Bc} {g a g2 a2 g3 a3 c2 c3:Nat} {x:DZ}
theorem Ub:∀ W:Bc,(Instr.makeSlice 34 (zI 1) (zI 1)).run Tryz.prog W= .ok (zS W.heap.size 0 1 1) (W.alloc (.cells #[zO,zN,zO] 43)):=fun W=>by kernel_rfl
structure Vj (w w':Bc) (boot:Int) (x:DZ) (gO gE gW cE cW:Nat):Prop where
 o:AX w' gO 43 #[zI x.value,zS gE 0 1 cE,zI x.version]
 e:w'.ownsRow w.heap.size 40 2 (zS gE 0 1 cE) 1 [zI x.op,zS gW 0 1 cW]
 s:w'.ownsRow w.heap.size 27 1 (zS gW 0 1 cW) 1 [.string x.who]
 ge:w.heap.size<=gO
def nS (w:Bc) (boot:Int) (x:DZ) (e:Ending) (w':Bc):Prop:=∃ a d f b c,e= .returned (.agg #[zI boot,zS a 0 1 1])/\Vj w w' boot x a d f b c/\Au w w'
theorem AX.at_ {W:Bc} {n:Nat} (t:TypeId) (cs:Array Value) (a:W.heap.size=n):AX (W.alloc (.cells cs t)) n t cs:=by
 subst a;exact AX.new _ _ _
theorem Pw (boot:Int) (c:Nat) (w:Bc) (J:Er w g a g2 a2 g3 a3 c2 c3 x) :
  Calls Tryz.prog 223 #[.agg #[zI boot,zS g a 1 c]] w (nS w boot x):=by
 have be:=Ub;have ab:=Lh fun W (al:Au w W)=>TE W (J.AB al)
 have e:Hid (AX (w.alloc (.cells #[zI boot,zS g a 1 c] 36)) w.heap.size 36 #[zI boot,zS g a 1 c]):=Lh (AX.new w _ _);have b:Hid (Au w (w.alloc (.cells #[zI boot,zS g a 1 c] 36))):=Lh ((Aa _ w).alloc _);have ac:=Lh J;clear J;go_in;go_upto_region 1 with(fail)
 obtain⟨D,H⟩:∃ g,g=w.heap.size:=⟨_,rfl⟩
 have hs1:D+1=(w.alloc (.cells #[zI boot,zS g a 1 c] 36)).heap.size:=by simp[H]
 generalize w.alloc (.cells #[zI boot,zS g a 1 c] 36)=E at e b hs1 ⊢;rw[<- H] at e ⊢;have ag:=Lh H;clear H;have ae:Hid (D<E.heap.size):=Lh e.out.lt;have d:Hid (AX (E.alloc (.cells #[zO,zN] 36)) E.heap.size 36 #[zO,zN]):=Lh (AX.new E _ _);replace e:=Lh (e.out.alloc (.cells #[zO,zN] 36));replace b:=Lh (b.out.alloc (.cells #[zO,zN] 36));rw[<- hs1] at d;obtain⟨aa,Y⟩:∃ r,r=D+1:=⟨_,rfl⟩
 rw[<- Y] at d ⊢;generalize E.alloc (.cells #[zO,zN] 36)=u at e b d ⊢;have ad:Hid (w.heap.size<aa):=Lh (by have:=ag.out;omega);clear Y ae hs1;have bb:Cl u D 0 (zI boot):=e.out.cell 0;have L:Cl u D 1 (zS g a 1 c):=e.out.cell 1;have ah:=Lh e.out.lt;have af:=Lh d.out.lt;go_cut [3] fun ay W=>∃ s n,ay=zP s/\AX W s 36 #[zI boot,zS n 0 1 1]/\AX W n 43 #[zO,zN,zO]/\u.heap.size<=s/\u.heap.size<=n/\Au u W
 case first =>
  have bf:=ah.out;go_region
  all_goals
   go_wp2;go_meet
   first
   |(refine⟨_,_,rfl,((AX.at_ _ _ rfl).alloc _).drew,((AX.at_ _ _ (by simp))).drew,by simp,by simp,((((Aa _ u).alloc _).alloc _)).drew⟩;done)
   |(refine⟨_,_,rfl,((AX.at_ _ _ (by simp))).drew,((AX.at_ _ _ rfl).alloc _).drew,by simp,by simp,((((Aa _ u).alloc _).alloc _)).drew⟩;done)
 case rest =>
  obtain⟨s,n,rfl,V,U,an,am,k⟩:=hcut;have i:=Lh V;have h:=Lh U;replace e:=Lh (e.out.Ab k id);replace d:=Lh (d.out.Ab k id);have P:Hid (w.heap.size<=u.heap.size):=Lh b.out.size;replace b:=Lh (b.out.to k);have bd:Hid (w.heap.size<=s/\aa≠s):=Lh (by have:=P.out;have:=af.out;omega);have O:Hid (w.heap.size<=n):=Lh (by have:=P.out;omega);clear V U an am k bb L;obtain⟨o,aq⟩:∃ o,o=wc:=⟨_,rfl⟩
  subst aq;have L:Cl o D 1 (zS g a 1 c):=e.out.cell 1;go_wp2_with fail;refine wp_loop_rounds 2 ?_;rw[rounds_succ];have G:=ac.out.AB b.out;have ar:=G.k0;have au:=G.k1;have av:=G.k2;have j:Hid (AX (o.alloc (.cells #[zI x.value,zS g2 a2 1 c2,zI x.version] 43)) o.heap.size 43 #[zI x.value,zS g2 a2 1 c2,zI x.version]):=Lh (AX.new o _ _);clear G;go_upto_region 5 with(fail)
  have R:Hid (w.heap.size<=o.heap.size/\n<o.heap.size/\s<o.heap.size):=Lh ⟨b.out.size,h.out.lt,i.out.lt⟩;replace e:=Lh (e.out.alloc (.cells #[zI x.value,zS g2 a2 1 c2,zI x.version] 43));replace d:=Lh (d.out.alloc (.cells #[zI x.value,zS g2 a2 1 c2,zI x.version] 43));replace i:=Lh (i.out.alloc (.cells #[zI x.value,zS g2 a2 1 c2,zI x.version] 43));replace h:=Lh (h.out.alloc (.cells #[zI x.value,zS g2 a2 1 c2,zI x.version] 43));replace b:=Lh (b.out.alloc (.cells #[zI x.value,zS g2 a2 1 c2,zI x.version] 43));obtain⟨l,Z⟩:∃ g,g=o.heap.size:=⟨_,rfl⟩
  generalize o.alloc (.cells #[zI x.value,zS g2 a2 1 c2,zI x.version] 43)=az at e d i h b j ⊢;rw[<- Z] at j ⊢;have I:Hid (w.heap.size<=l/\n≠l/\s≠l):=Lh (by have:=R.out;omega);clear Z R ar au av L;have M:Cl az l 1 (zS g2 a2 1 c2):=j.out.cell 1;have K:=b.out.size;go_upto_region 6 with(go_at_call 258;refine(ab.out _ b.out).mono ?_;rintro f C ⟨⟨z,y,aj,ai,rfl,T,X⟩,k⟩;replace e:=Lh (e.out.Ab k id);replace d:=Lh (d.out.Ab k id);replace i:=Lh (i.out.Ab k id);replace h:=Lh (h.out.Ab k id);replace j:=Lh (j.out.Ab k id);have q:=Lh (Du T K);have bi:=Lh (Du X K);replace b:=Lh (b.out.to k);clear k T X M;have M:Cl C l 1 (zS g2 a2 1 c2):=j.out.cell 1;have bc:=j.out.frozen 1)
  have t:Am (fun B=>B=l) C (C.setCell (zA l 1) (zS z 0 1 y)):=(Aa (fun B=>B=l) C).setCell (p:=zA l 1) (fun _=>rfl) _;have Q:Hid (AX (C.setCell (zA l 1) (zS z 0 1 y)) l 43 #[zI x.value,zS z 0 1 y,zI x.version]):=Lh (j.out.Dw 1 (zS z 0 1 y));replace d:=Lh (d.out.Ab t (AX.GJ d.out j.out (by decide)));replace i:=Lh (i.out.Ab t I.out.2.2);replace h:=Lh (h.out.Ab t I.out.2.1);replace q:=Lh (Aj q.out t fun g m f=>Ba q.out j.out (by decide) (by rw[<- f];exact m));replace bi:=Lh (Aj bi.out t fun g m f=>Ba bi.out j.out (by decide) (by rw[<- f];exact m));replace b:=Lh (b.out.AJ t fun B hq f=>by have:=I.out;omega);replace j:=Q;clear Q e;generalize C.setCell (zA l 1) (zS z 0 1 y)=ba at d i h q bi b j t ⊢;clear t M bc K;have aw:Cl ba s 1 (zS n 0 1 1):=i.out.cell 1;go_upto_region 7 with(first
   |(refine AA rfl (.tmp 5) rfl rfl j.out Tryz.underlying43 rfl LV ?_)
   |(refine Bo rfl (.tmp 29) (.tmp 28) rfl rfl (cs':=#[zI x.value,zS z 0 1 y,zI x.version]) rfl h.out LV rfl (by simp[Value.oneCell']) ?_;intro bg S A ao;clear ao))
  replace d:=Lh (d.out.Ab A (AX.GJ d.out h.out (by decide)));replace i:=Lh (i.out.Ab A (AX.GJ i.out h.out (by decide)));replace q:=Lh (Aj q.out A fun g m f=>Ba q.out h.out (by decide) (by rw[<- f];exact m));replace bi:=Lh (Aj bi.out A fun g m f=>Ba bi.out h.out (by decide) (by rw[<- f];exact m));replace b:=Lh (b.out.AJ A fun B hq f=>by have:=O.out;omega);have N:=Lh S;clear S A aw;go_wp2;rw[rounds_succ];go_wp2_with (first
   |(refine AA rfl (.tmp 3) rfl rfl i.out Tryz.underlying36 rfl Ep ?_)
   |(refine Bo rfl (.tmp 2) (.tmp 31) rfl rfl (cs':=#[zI boot,zS n 0 1 1]) rfl d.out Ep rfl (by simp[Value.oneCell']) ?_;intro bh ak F ap;clear ap))
  refine bodyPost_ret (v:=.agg #[zI boot,zS n 0 1 1]) (Gz (p:=2) Tryz.results223 _ rfl ak Tryz.underlying36 rfl Ep) rfl ?_;exact⟨n,z,aj,y,ai,rfl,⟨N.out.Ab F (AX.GJ N.out d.out (by decide)),Aj q.out F fun g m f=>Ba q.out d.out (by decide) (by rw[<- f];exact m),Aj bi.out F fun g m f=>Ba bi.out d.out (by decide) (by rw[<- f];exact m),O.out⟩,b.out.AJ F fun B hq f=>by have:=ad.out;omega⟩
end

section
variable {P:Program} {w:Bc} {g:Nat} {t ty:TypeId} {cs:Array Value} {d:TypeDesc}
theorem Nw {a:Func} {p q r:Nat} (b:a.results=#[.cell p ty,.tmp q,.tmp r]) (tmps:Array Value) {v u:Value} (h:tmps.getD p undef=zP g) (hq:tmps.getD q undef=v) (k:tmps.getD r undef=u) (c:AX w g t cs) (m:P.underlying ty=some d) (e:d.isRow=true) (f:(P.info? ty).map (·.size)=some cs.size) :
  (results a tmps).run P w= .ok (.tuple #[.agg cs,v,u]) w:=by
 have i:tmps[p]?.getD undef=zP g:=by simpa using h
 have j:tmps[q]?.getD undef=v:=by simpa using hq
 have l:tmps[r]?.getD undef=u:=by simpa using k
 simp[results,b,i,j,l,asAddr,IR c m e f]
end
section
variable {w w' W:Bc} {g a g2 a2 g3 a3 c2 c3:Nat} {x:DZ}
def qF (w:Bc) (boot:Int) (x:DZ) (e:Ending) (w':Bc):Prop:=∃ a d f b c,e= .returned (.tuple #[.agg #[zI boot,zS a 0 1 1],zI x.value,zO])/\Vj w w' boot x a d f b c/\Au w w'
theorem qO (boot:Int) (c:Nat) (w:Bc) (aj:0<=boot) (ak:boot<=40) (M:Er w g a g2 a2 g3 a3 c2 c3 x) (hx:G9 x) :
  Calls Tryz.prog 192 #[.agg #[zI boot,zS g a 1 c],.agg #[zO,zO,zO,zO,zN]] w (qF w boot x):=by
 have ab:=Lh fun W (K:Au w W)=>Kl boot x c W aj ak (M.AB K) hx
 have Z:Hid (∀ W,Calls Tryz.prog 100 #[.agg #[zO,zO,zO,zO,zN]] W (Rt (.bool true) (Au W))):=Lh fun W=>MS 0 0 W ⟨.inl rfl,by omega,by omega,fun _=>rfl⟩
 have aa:=Lh fun W (K:Au w W)=>Pw boot c W (M.AB K)
 have e:Hid (AX (w.alloc (.cells #[zI boot,zS g a 1 c] 36)) w.heap.size 36 #[zI boot,zS g a 1 c]):=Lh (AX.new w _ _);have f:Hid (Au w (w.alloc (.cells #[zI boot,zS g a 1 c] 36))):=Lh ((Aa _ w).alloc _);clear M hx;go_in;go_upto_region 1 with(fail)
 obtain⟨H,P⟩:∃ g,g=w.heap.size:=⟨_,rfl⟩
 have hs1:H+1=(w.alloc (.cells #[zI boot,zS g a 1 c] 36)).heap.size:=by simp[P]
 generalize w.alloc (.cells #[zI boot,zS g a 1 c] 36)=E at e f hs1 ⊢;have b:Hid (AX (E.alloc (.cells #[zO,zO,zO,zO,zN] 48)) E.heap.size 48 #[zO,zO,zO,zO,zN]):=Lh (AX.new E _ _);replace e:=Lh (e.out.alloc (.cells #[zO,zO,zO,zO,zN] 48));replace f:=Lh (f.out.alloc (.cells #[zO,zO,zO,zO,zN] 48));have N:H+1+1=(E.alloc (.cells #[zO,zO,zO,zO,zN] 48)).heap.size:=by simp[<- hs1]
 generalize E.alloc (.cells #[zO,zO,zO,zO,zN] 48)=G at e b f N ⊢;have d:Hid (AX (G.alloc (.cells #[zO,zN] 36)) G.heap.size 36 #[zO,zN]):=Lh (AX.new G _ _);replace e:=Lh (e.out.alloc (.cells #[zO,zN] 36));replace b:=Lh (b.out.alloc (.cells #[zO,zN] 36));replace f:=Lh (f.out.alloc (.cells #[zO,zN] 36));generalize G.alloc (.cells #[zO,zN] 36)=az at e b d f ⊢;rw[<- hs1] at b;rw[<- N] at d;rw[<- P] at e ⊢;have I:Hid (w.heap.size<=H+1+1):=Lh (by omega);clear hs1 N P;obtain⟨Y,V⟩:∃ y,y=H+1:=⟨_,rfl⟩
 rw[<- V] at b d I ⊢;clear V;obtain⟨j,X⟩:∃ y,y=Y+1:=⟨_,rfl⟩
 rw[<- X] at d I ⊢;clear X;have t:=e.out.cell 1;have k:=b.out.cell 0;have l:=b.out.cell 1;have m:=b.out.cell 2;have r:=b.out.cell 3;have s:=b.out.cell 4;go_upto_region 6 with(first
  |(refine AA rfl (.tmp 2) rfl rfl e.out Tryz.underlying36 rfl Ep ?_)
  |(go_at_call 70;refine(ab.out _ f.out).mono ?_;rintro q ap ⟨rfl,i⟩;replace e:=Lh (e.out.Ab i id);replace b:=Lh (b.out.Ab i id);replace d:=Lh (d.out.Ab i id);replace f:=Lh (f.out.to i);clear i k l m r s t;have t:=e.out.cell 1;have k:=b.out.cell 0;have l:=b.out.cell 1;have m:=b.out.cell 2;have r:=b.out.cell 3;have s:=b.out.cell 4)
  |(go_at_call 100;refine(Z.out _).mono ?_;rintro q ap ⟨rfl,i⟩;replace e:=Lh (e.out.Ab i id);replace b:=Lh (b.out.Ab i id);replace d:=Lh (d.out.Ab i id);replace f:=Lh (f.out.to i);clear i k l m r s t;have t:=e.out.cell 1;have k:=b.out.cell 0;have l:=b.out.cell 1;have m:=b.out.cell 2;have r:=b.out.cell 3;have s:=b.out.cell 4)
  |(go_at_call 223;refine(aa.out _ f.out).mono ?_;have O:=f.out.size;rintro q n ⟨h,ah,ai,af,ag,rfl,u,i⟩;have B:=Lh u.o;have z:=Lh (Du u.e O);have C:=Lh (Du u.s O);have ad:Hid (w.heap.size<=h):=Lh (by have:=u.ge;omega);have ae:Hid (j<h):=Lh (by have:=u.ge;have:=d.out.lt;omega);replace e:=Lh (e.out.Ab i id);replace b:=Lh (b.out.Ab i id);replace d:=Lh (d.out.Ab i id);replace f:=Lh (f.out.to i);clear i k l m r s t;have t:=e.out.cell 1;have k:=b.out.cell 0;have l:=b.out.cell 1;have m:=b.out.cell 2;have r:=b.out.cell 3;have s:=b.out.cell 4;clear u O))
 have A:Hid (AX (n.alloc (.cells #[zI boot,zS h 0 1 1] 36)) n.heap.size 36 #[zI boot,zS h 0 1 1]):=Lh (AX.new n _ _);have R:Hid (j≠n.heap.size):=Lh (by have:=d.out.lt;omega);replace e:=Lh (e.out.alloc (.cells #[zI boot,zS h 0 1 1] 36));replace b:=Lh (b.out.alloc (.cells #[zI boot,zS h 0 1 1] 36));replace d:=Lh (d.out.alloc (.cells #[zI boot,zS h 0 1 1] 36));replace B:=Lh (B.out.alloc (.cells #[zI boot,zS h 0 1 1] 36));replace z:=Lh (Aj z.out ((T0 n).alloc (.cells #[zI boot,zS h 0 1 1] 36)) fun _ _ J=>J);replace C:=Lh (Aj C.out ((T0 n).alloc (.cells #[zI boot,zS h 0 1 1] 36)) fun _ _ J=>J);replace f:=Lh (f.out.alloc (.cells #[zI boot,zS h 0 1 1] 36));obtain⟨Q,U⟩:∃ y,y=n.heap.size:=⟨_,rfl⟩
 generalize n.alloc (.cells #[zI boot,zS h 0 1 1] 36)=o at e b d B z C f A ⊢;rw[<- U] at A R ⊢;clear U k l m r s t;have k:=b.out.cell 0;have l:=b.out.cell 1;have m:Cl o Y 2 zO:=b.out.cell 2;have am:=A.out.cell 1;go_upto_region 19 with(fail)
 have av:Cl o Q 0 (zI boot):=A.out.cell 0;have am:Cl o Q 1 (zS h 0 1 1):=A.out.cell 1;have aw:Cl o h 0 (zI x.value):=B.out.cell 0;have ax:Cl o j 0 zO:=d.out.cell 0;have ay:Cl o j 1 (zN):=d.out.cell 1;have aq:=d.out.frozen 0;have ar:=d.out.frozen 1;have au:Q≠j:=BZ R.out;have al:h≠j:=by have:=ae.out;omega
 go_cut [5,6] fun an ao W=>an=zI x.value/\ao=zO/\AX W j 36 #[zI boot,zS h 0 1 1]/\Am (fun D=>D=j) o W
 case first =>
  go_region
  all_goals
   go_wp2;go_meet;exact⟨rfl,rfl,(d.out.drew.Dw 0 (zI boot)).Dw 1 (zS h 0 1 1),(((Aa (fun D=>D=j) o).drew.setCell (p:=zA j 0) (fun _=>rfl) _).setCell (p:=zA j 1) (fun _=>rfl) _)⟩
 case rest =>
  obtain⟨rfl,rfl,S,T⟩:=hcut;have ac:=Lh S;have F:=Lh T;clear S T;go_wp2;refine bodyPost_ret (v:=.tuple #[.agg #[zI boot,zS h 0 1 1],zI x.value,zO]) (Nw (p:=4) (q:=5) (r:=6) Tryz.results192 _ rfl rfl rfl ac.out Tryz.underlying36 rfl Ep) rfl ?_;exact⟨h,ah,ai,af,ag,rfl,⟨B.out.Ab F.out al,Aj z.out F.out fun g L q=>Ba z.out d.out (by decide) (by rw[<- q];exact L),Aj C.out F.out fun g L q=>Ba C.out d.out (by decide) (by rw[<- q];exact L),ad.out⟩,f.out.AJ F.out fun D hq q=>by have:=I.out;omega⟩
theorem qP (boot arg:Int) (c:Nat) (w:Bc) (az:0<=boot) (ba:boot<=40) (U:Er w g a g2 a2 g3 a3 c2 c3 x) (hx:G9 x) (ha:G8 1 arg) (bk:x.value+arg<=4611686018427387904) :
  Calls Tryz.prog 192 #[.agg #[zI boot,zS g a 1 c],.agg #[zO,zI 1,zI arg,zO,zN]] w (qF w boot ⟨x.value+arg,x.version,x.op,x.who⟩):=by
 have ao:=Lh fun W (r:Au w W)=>Kl boot x c W az ba (U.AB r) hx
 have am:Hid (∀ W,Calls Tryz.prog 100 #[.agg #[zO,zI 1,zI arg,zO,zN]] W (Rt (.bool true) (Au W))):=Lh fun W=>MS 1 arg W ha
 have an:=Lh fun W (r:Au w W)=>Pw boot c W (U.AB r)
 obtain⟨_,bh,bi,_⟩:=ha;have bl:=hx.v0;have bm:=hx.v1;have au:decide (x.value > 4611686018427387904-arg)=false:=dF;have av:decide (4611686018427387904-arg<x.value)=false:=dF;have aw:IntKind.i64.wrap (4611686018427387904-arg)=4611686018427387904-arg:=by rw[IntKind.wrap_i64];omega
 have ax:IntKind.i64.wrap (x.value+arg)=x.value+arg:=by rw[IntKind.wrap_i64];omega
 have i:Hid (AX (w.alloc (.cells #[zI boot,zS g a 1 c] 36)) w.heap.size 36 #[zI boot,zS g a 1 c]):=Lh (AX.new w _ _);have f:Hid (Au w (w.alloc (.cells #[zI boot,zS g a 1 c] 36))):=Lh ((Aa _ w).alloc _);clear U hx;go_in;go_upto_region 1 with(fail)
 obtain⟨R,Z⟩:∃ g,g=w.heap.size:=⟨_,rfl⟩
 have hs1:R+1=(w.alloc (.cells #[zI boot,zS g a 1 c] 36)).heap.size:=by simp[Z]
 generalize w.alloc (.cells #[zI boot,zS g a 1 c] 36)=N at i f hs1 ⊢;have b:Hid (AX (N.alloc (.cells #[zO,zI 1,zI arg,zO,zN] 48)) N.heap.size 48 #[zO,zI 1,zI arg,zO,zN]):=Lh (AX.new N _ _);replace i:=Lh (i.out.alloc (.cells #[zO,zI 1,zI arg,zO,zN] 48));replace f:=Lh (f.out.alloc (.cells #[zO,zI 1,zI arg,zO,zN] 48));have V:R+1+1=(N.alloc (.cells #[zO,zI 1,zI arg,zO,zN] 48)).heap.size:=by simp[<- hs1]
 generalize N.alloc (.cells #[zO,zI 1,zI arg,zO,zN] 48)=Q at i b f V ⊢;have d:Hid (AX (Q.alloc (.cells #[zO,zN] 36)) Q.heap.size 36 #[zO,zN]):=Lh (AX.new Q _ _);replace i:=Lh (i.out.alloc (.cells #[zO,zN] 36));replace b:=Lh (b.out.alloc (.cells #[zO,zN] 36));replace f:=Lh (f.out.alloc (.cells #[zO,zN] 36));generalize Q.alloc (.cells #[zO,zN] 36)=bq at i b d f ⊢;rw[<- hs1] at b;rw[<- V] at d;rw[<- Z] at i ⊢;have T:Hid (w.heap.size<=R+1+1):=Lh (by omega);clear hs1 V Z;obtain⟨P,aj⟩:∃ J,J=R+1:=⟨_,rfl⟩
 rw[<- aj] at b d T ⊢;clear aj;obtain⟨u,ak⟩:∃ J,J=P+1:=⟨_,rfl⟩
 rw[<- ak] at d T ⊢;clear ak;have H:=i.out.cell 1;have z:=b.out.cell 0;have A:=b.out.cell 1;have s:=b.out.cell 2;have F:=b.out.cell 3;have G:=b.out.cell 4;go_upto_region 6 with(first
  |(refine AA rfl (.tmp 2) rfl rfl i.out Tryz.underlying36 rfl Ep ?_)
  |(go_at_call 70;refine(ao.out _ f.out).mono ?_;rintro q be ⟨rfl,h⟩;replace i:=Lh (i.out.Ab h id);replace b:=Lh (b.out.Ab h id);replace d:=Lh (d.out.Ab h id);replace f:=Lh (f.out.to h);clear h z A s F G H;have H:=i.out.cell 1;have z:=b.out.cell 0;have A:=b.out.cell 1;have s:=b.out.cell 2;have F:=b.out.cell 3;have G:=b.out.cell 4)
  |(go_at_call 100;refine(am.out _).mono ?_;rintro q be ⟨rfl,h⟩;replace i:=Lh (i.out.Ab h id);replace b:=Lh (b.out.Ab h id);replace d:=Lh (d.out.Ab h id);replace f:=Lh (f.out.to h);clear h z A s F G H;have H:=i.out.cell 1;have z:=b.out.cell 0;have A:=b.out.cell 1;have s:=b.out.cell 2;have F:=b.out.cell 3;have G:=b.out.cell 4)
  |(go_at_call 223;refine(an.out _ f.out).mono ?_;have X:=f.out.size;rintro q B ⟨e,af,ay,ae,ar,rfl,I,h⟩;have j:=Lh I.o;have k:=Lh (Du I.e X);have m:=Lh (Du I.s X);have ab:Hid (w.heap.size<=e):=Lh (by have:=I.ge;omega);have aq:Hid (u<e):=Lh (by have:=I.ge;have:=d.out.lt;omega);replace i:=Lh (i.out.Ab h id);replace b:=Lh (b.out.Ab h id);replace d:=Lh (d.out.Ab h id);replace f:=Lh (f.out.to h);clear h z A s F G H;have H:=i.out.cell 1;have z:=b.out.cell 0;have A:=b.out.cell 1;have s:=b.out.cell 2;have F:=b.out.cell 3;have G:=b.out.cell 4;clear I X))
 have l:Hid (AX (B.alloc (.cells #[zI boot,zS e 0 1 1] 36)) B.heap.size 36 #[zI boot,zS e 0 1 1]):=Lh (AX.new B _ _);have ac:Hid (u≠B.heap.size):=Lh (by have:=d.out.lt;omega);replace i:=Lh (i.out.alloc (.cells #[zI boot,zS e 0 1 1] 36));replace b:=Lh (b.out.alloc (.cells #[zI boot,zS e 0 1 1] 36));replace d:=Lh (d.out.alloc (.cells #[zI boot,zS e 0 1 1] 36));replace j:=Lh (j.out.alloc (.cells #[zI boot,zS e 0 1 1] 36));replace k:=Lh (Aj k.out ((T0 B).alloc (.cells #[zI boot,zS e 0 1 1] 36)) fun _ _ t=>t);replace m:=Lh (Aj m.out ((T0 B).alloc (.cells #[zI boot,zS e 0 1 1] 36)) fun _ _ t=>t);replace f:=Lh (f.out.alloc (.cells #[zI boot,zS e 0 1 1] 36));obtain⟨aa,ai⟩:∃ J,J=B.heap.size:=⟨_,rfl⟩
 generalize B.alloc (.cells #[zI boot,zS e 0 1 1] 36)=o at i b d j k m f l ⊢;rw[<- ai] at l ac ⊢;clear ai z A s F G H;have z:=b.out.cell 0;have A:=b.out.cell 1;have s:Cl o P 2 (zI arg):=b.out.cell 2;have al:=l.out.cell 1;have E:Cl o e 0 (zI x.value):=j.out.cell 0;go_upto_region 10 with(fail)
 go_quiet (fail);obtain⟨K,Y⟩:∃ W,W=o.drewN nq:=⟨_,rfl⟩
 rw[<- Y];have h:Au o K:=by rw[Y];exact(Aa _ o).drewN nq
 clear Y E z A s al;replace b:=Lh (b.out.Ab h id);replace d:=Lh (d.out.Ab h id);replace j:=Lh (j.out.Ab h id);replace l:=Lh (l.out.Ab h id);replace k:=Lh (Aj k.out h fun _ _ t=>t);replace m:=Lh (Aj m.out h fun _ _ t=>t);replace f:=Lh (f.out.to h);clear h i;go_upto_region 12 with(fail)
 clear au av;have E:Cl K e 0 (zI x.value):=j.out.cell 0;have s:Cl K P 2 (zI arg):=b.out.cell 2;refine EQ 9 (S:=fun W=>Cl W e 0 (zI x.value)/\Cl W P 2 (zI arg)) (by kernel_rfl) ⟨E,s⟩ fun n=>?_
 replace b:=Lh b.out.drew;replace d:=Lh d.out.drew;replace j:=Lh j.out.drew;replace l:=Lh l.out.drew;replace k:=Lh (Aj k.out ((T0 K).drew) fun _ _ t=>t);replace m:=Lh (Aj m.out ((T0 K).drew) fun _ _ t=>t);replace f:=Lh f.out.drew;generalize K.drew=L at b d j l k m f n ⊢;clear E s;refine zq 0 45 n ?_;refine zq 1 46 n ?_;refine zq 2 47 n ?_;refine zq 3 48 n ?_;refine zq 4 49 n ?_;refine zq 5 50 n ?_;refine zq 6 51 n ?_;refine I7 7 (by kernel_rfl) rfl fun M r=>?_
 go_simp;refine r.out _ _ (n) fun n=>?_
 clear r M;refine I7 8 (by kernel_rfl) rfl fun M r=>?_
 go_simp;refine r.out _ _ (n) fun n=>?_
 clear r M;refine zl fun M r=>?_
 have E:Cl L e 0 (zI x.value):=j.out.cell 0;have of:=j.out.frozen 0;go_simp;refine r.out _ _ ?_;clear r M;refine zd ?_;have C:Am (fun y=>y=e) L (L.setCell (zA e 0) (zI (x.value+arg))):=(Aa (fun y=>y=e) L).setCell (p:=zA e 0) (fun _=>rfl) _;have ad:Hid (AX (L.setCell (zA e 0) (zI (x.value+arg))) e 43 #[zI (x.value+arg),zS af 0 1 ae,zI x.version]):=Lh (j.out.Dw 0 (zI (x.value+arg)));replace d:=Lh (d.out.Ab C (AX.GJ d.out j.out (by decide)));replace l:=Lh (l.out.Ab C (AX.GJ l.out j.out (by decide)));replace k:=Lh (Aj k.out C fun g D q=>Ba k.out j.out (by decide) (by rw[<- q];exact D));replace m:=Lh (Aj m.out C fun g D q=>Ba m.out j.out (by decide) (by rw[<- q];exact D));replace f:=Lh (f.out.AJ C fun y hq q=>by have:=ab.out;omega);replace j:=ad;clear ad;generalize L.setCell (zA e 0) (zI (x.value+arg))=o at d l k m f j C ⊢;clear C n E of aw ax;go_upto_region 19 with(fail)
 have bn:Cl o aa 0 (zI boot):=l.out.cell 0;have al:Cl o aa 1 (zS e 0 1 1):=l.out.cell 1;have E:Cl o e 0 (zI (x.value+arg)):=j.out.cell 0;have bo:Cl o u 0 zO:=d.out.cell 0;have bp:Cl o u 1 (zN):=d.out.cell 1;have bf:=d.out.frozen 0;have bg:=d.out.frozen 1;have bj:aa≠u:=BZ ac.out;have bb:e≠u:=by have:=aq.out;omega
 go_cut [5,6] fun bc bd W=>bc=zI (x.value+arg)/\bd=zO/\AX W u 36 #[zI boot,zS e 0 1 1]/\Am (fun y=>y=u) o W
 case first =>
  go_region
  all_goals
   go_wp2;go_meet;exact⟨rfl,rfl,(d.out.drew.Dw 0 (zI boot)).Dw 1 (zS e 0 1 1),(((Aa (fun y=>y=u) o).drew.setCell (p:=zA u 0) (fun _=>rfl) _).setCell (p:=zA u 1) (fun _=>rfl) _)⟩
 case rest =>
  obtain⟨rfl,rfl,ag,ah⟩:=hcut;have ap:=Lh ag;have O:=Lh ah;clear ag ah;go_wp2;refine bodyPost_ret (v:=.tuple #[.agg #[zI boot,zS e 0 1 1],zI (x.value+arg),zO]) (Nw (p:=4) (q:=5) (r:=6) Tryz.results192 _ rfl rfl rfl ap.out Tryz.underlying36 rfl Ep) rfl ?_;exact⟨e,af,ay,ae,ar,rfl,⟨j.out.Ab O.out bb,Aj k.out O.out fun g D q=>Ba k.out d.out (by decide) (by rw[<- q];exact D),Aj m.out O.out fun g D q=>Ba m.out d.out (by decide) (by rw[<- q];exact D),ab.out⟩,f.out.AJ O.out fun y hq q=>by have:=T.out;omega⟩
end

end Go.Proofs.YtcjcndnjpedniaaGreat
