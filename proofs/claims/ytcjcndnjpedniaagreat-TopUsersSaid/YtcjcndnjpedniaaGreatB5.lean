/- A part of the proof of TopUsers. -/
import Derived.Test.YtcjcndnjpedniaaGreatB4
namespace Go.Proofs.YtcjcndnjpedniaaGreat
set_option linter.all false
set_option maxRecDepth 100000
set_option maxHeartbeats 8000000
open Go.RowKit
section
variable {α : Type} {V:α->Value}
theorem RI {size:Nat} (b:∀ x,(V x).cells.size=size) (xs:List α) (i:Nat) (c:i<=xs.length):(BN V xs).take (i*size)=BN V (xs.take i):=by
 have a:BN V xs=BN V (xs.take i)++BN V (xs.drop i):=by rw[<- Ez,EW]
 rw[a];refine Ff ?_;rw[F4 b,BA]
 congr 1
 omega
end
section
variable {P:Program} {w w':Bc} {o:Oper} {a:Act} {K:Act->Bc->Prop} {Q:Exit->Act->Bc->Prop} {v u v':Value}
theorem wp_append_run (s x:Operand) (t:TypeId) (c:o.op= .call {callee:=.builtin .append,args:=#[s,x],argTypes:=#[t,t]}) (e:a.eval s=v) (hx:a.eval x=u)
  (d:(Builtin.append_ #[t,t] o.type #[v,u]).run P w= .ok v' w') (b:K (a.put o.dst v') w'):o.wp P a w K Q:=by
 unfold Oper.wp execOp;simp only[c,resolve,invoke,builtin,Sem.run_bind,Sem.run_pure,Result.andThen_ok,List.map_toArray,Dm,FR,e,hx,d];exact b
end
theorem gQ {w:Bc} {base g c:Nat} {E:List EH} {i m:Nat} (x:w.ownsRow base 226 3 (zS g 0 E.length c) E.length (BN Ib E)) (X:i<E.length) (Y:E.length=m+1) :
  ∃ b w2,(∀ a,(Instr.slice 164 (zS g 0 E.length c) none (some (zI (i:Int))) none).run Tryz.prog a= .ok (zS g 0 i c) a) /\
   (∀ a,(Instr.slice 164 (zS g 0 E.length c) (some (zI ((i:Int)+1))) none none).run Tryz.prog a= .ok (.slice (some b) (E.length-(i+1)) (c-(i+1))) a) /\
   (∀ ty,(Builtin.append_ #[164,164] ty #[zS g 0 i c,.slice (some b) (E.length-(i+1)) (c-(i+1))]).run Tryz.prog w= .ok (zS g 0 m c) w2) /\
   (∃ cs,AX w2 g 226 cs/\cs.size=c*3/\cs.toList.take (m*3)=BN Ib (E.eraseIdx i))/\Am (fun k=>k=g) w w2:=by
 obtain⟨o,v,aa,d,ab⟩:=info_parts PK;have O:=Ay.Hu (V:=Ib) (fun _=>rfl) x;rcases x.2 with⟨e,_⟩|⟨S,R,h,M,U,s,Z,W,A,ht⟩
 ·cases e
 have N:=M;injection N with p _ F;injection p with p;injection p with G;subst G F;have j:Tryz.prog.elem 164=226:=by simp[Program.elem,Tryz.underlying164]
 have T:c≠0:=by omega
 obtain⟨b,D,K⟩:∃ b,(if c=i+1 then some ((zA g 0):Addr) else some ⟨g,(i+1)*3,none⟩)=some b/\∀ f u,(BN Ib (E.drop (i+1)))[f]?= some u->w.cell? (b.add f)=some u:=by
  by_cases y:c=i+1
  ·refine⟨_,by rw[AQ y],fun f u n=>?_⟩;rw[show E.drop (i+1)=[] from List.drop_eq_nil_of_le (by omega)] at n;simp[BN] at n
  ·refine⟨_,by rw[Bg y],fun f u n=>?_⟩;have q:(BN Ib E)[(i+1)*3+f]?= some u:=by
    have e:BN Ib E=BN Ib (E.take (i+1))++BN Ib (E.drop (i+1)):=by rw[<- Ez,EW]
    have I:(BN Ib (E.take (i+1))).length=(i+1)*3:=by rw[F4 (size:=3) fun _=>rfl,BA,EL (by omega)]
    rw[e,Cq (by omega),I];simpa using n
   have H:(i+1)*3+f<E.length*3:=by
    have:=(AC.1 q).1
    rwa [F4 (size:=3) fun _=>rfl] at this
   rw[Addr.add_lit,cell_of_row w g _ h 226 (0,0) s];rw[<- ht,Cf H] at q;simpa using q
 have l:(BN Ib (E.drop (i+1))).length=(E.length-(i+1))*o.size:=by rw[d,F4 (size:=3) fun _=>rfl,Cb]
 have J:∀ u∈BN Ib (E.drop (i+1)),u.oneCell'=true:=Oq (Q:=fun u=>u.oneCell'=true) ZT _;have z:=fun ty=>run_append_room (P:=Tryz.prog) w 164 ty 226 o Tryz.underlying164 v g i c h s b (E.length-(i+1)) (c-(i+1)) (BN Ib (E.drop (i+1))) l K J (by omega) (by rw[l,d,A];omega)
 obtain⟨cs,r⟩:∃ cs,cs=(List.take (i*o.size) h.toList++BN Ib (List.drop (i+1) E)++List.drop (i*o.size+(BN Ib (List.drop (i+1) E)).length) h.toList).toArray:=⟨_,rfl⟩
 rw[<- r] at z;refine⟨b,w.setRow g cs,fun a=>?_,fun a=>?_,fun ty=>?_,⟨cs,GU (t:=226) s cs,?_,?_⟩,EY w g cs⟩
 ·rw[run_slice_h a 164 _ _ c (by rw[j];exact Tryz.underlying164) .i64 (i:Int) (by omega) (by omega),j];simp[sizeOf,typeInfo,v,d,sliced,Addr.add_lit]
 ·rw[run_slice_l a 164 _ _ c (by rw[j];exact Tryz.underlying164) .i64 ((i:Int)+1) (by omega) (by omega),j];have L:((i:Int)+1).toNat=i+1:=by omega
  simp[sizeOf,typeInfo,v,d,sliced,L,Addr.add_lit];exact D
 ·have e:=z ty;rw[show i+(E.length-(i+1))=m by omega] at e;exact e
 ·rw[r,EJ,Ap,Ap,BA,Cb,Ci,l,d,A];omega
 ·have B:h.toList.take (i*3)=BN Ib (E.take i):=by
   rw[<- RI (size:=3) (fun _=>rfl) E i (by omega),<- ht,List.take_take,EL (by omega)]
  have C:(BN Ib (E.take i)++BN Ib (E.drop (i+1))).length=m*3:=by
   rw[Ap,l,d,F4 (size:=3) fun _=>rfl,BA,EL (by omega)];omega
  rw[r,d,B,Gc,Ff C,<- Ez,<- List.eraseIdx_eq_take_drop_succ]
def RA:List Value:=[zU 0,zN,zO]
theorem YZ:(Builtin.zeroCells (Value.agg #[zU 0,zN,zO]).cells 1).toList=RA:=by kernel_rfl
def fK (w:Bc) (base g c i:Nat) (E:List EH) (e:Ending) (w':Bc):Prop :=
 e= .returned (zS g 0 (E.eraseIdx i).length c)/\w'.ownsRow base 226 3 (zS g 0 (E.eraseIdx i).length c) (E.eraseIdx i).length (BN Ib (E.eraseIdx i))/\Am (fun a=>a=g) w w'
theorem gP {w:Bc} {base g c:Nat} {E:List EH} {i:Nat} (k:w.ownsRow base 226 3 (zS g 0 E.length c) E.length (BN Ib E)) (z:i<E.length) (ab:E.length<=1000000) :
  Calls Tryz.prog 205 #[zS g 0 E.length c,zI i,zI ((i:Int)+1)] w (fK w base g c i E):=by
 obtain⟨ad,q,T,s,U⟩:=info_parts PK;obtain⟨a,B⟩:∃ a,E.length=a+1:=⟨E.length-1,by omega⟩
 obtain⟨W,D,_⟩:=Mc k;unfold maxLen at D;have y:=BQ k (g:=g) (by simp[Value.ownBlock]);have u:=Aj k ((T0 w).drew) fun _ _ h=>h
 obtain⟨aa,f,Y,H,o,⟨l,n,p,C⟩,x⟩:=gQ u z B;have j:Tryz.prog.elem 164=226:=by simp[Program.elem,Tryz.underlying164]
 have r:=run_storeCells_at Tryz.prog g (a*3) 226 RA 0 l f n (by show a*3+0+3<=_;omega) (by simp[RA,Value.oneCell']);obtain⟨d,m⟩:∃ d,d=(l.toList.take (a*3+0)++RA++l.toList.drop (a*3+0+RA.length)).toArray:=⟨_,rfl⟩
 rw[<- m] at r;have P:∀ F,(Builtin.clear_ #[164] F #[.slice (some (zA g (a*3))) 1 (c-a)]).run Tryz.prog f= .ok (.tuple #[]) (f.setRow g d):=fun F=>by
  simp[Builtin.clear_,run_underlying Tryz.underlying164,YZ,r]
 have I:Hid ((f.setRow g d).ownsRow base 226 3 (zS g 0 (E.eraseIdx i).length c) (E.eraseIdx i).length (BN Ib (E.eraseIdx i))/\Am (fun t=>t=g) w (f.setRow g d)/\(E.eraseIdx i).length=a):=by
  have A:(E.eraseIdx i).length=a:=by rw[List.length_eraseIdx_of_lt z];omega
  have R:d.size=c*3:=by
   rw[m,EJ,Ap,Ap,BA,Cb,Ci,p];rw[show RA.length=3 from rfl];omega
  refine⟨⟨by rw[F4 (size:=3) fun _=>rfl],.inr ⟨g,c,d,rfl,y,GU n d,by omega,by unfold maxLen;omega,R,?_⟩⟩,((Aa (fun t=>t=g) w).drew.AJ x fun _ _ h=>h).AJ (EY f g d) fun _ _ h=>h,A⟩;have Q:(l.toList.take (a*3)).length=a*3:=by rw[BA,Ci,p];omega
  rw[A,m,Gc,F7,BJ,Ff Q];exact C
 obtain⟨G,X⟩:∃ G,∀ b,(Instr.slice 164 (zS g 0 E.length c) (some (zI (i:Int))) (some (zI ((i:Int)+1))) (some (zI (E.length:Int)))).run Tryz.prog b= .ok G b :=
  ⟨sliced (some (zA g 0)) i (i+1) E.length 3,fun b=>by
   rw[run_slice_lhm b 164 _ _ c (by rw[j];exact Tryz.underlying164) .i64 .i64 .i64 (i:Int) ((i:Int)+1) (E.length:Int) (by omega) (by omega) (by omega) (by omega),j];have S:((i:Int)+1).toNat=i+1:=by omega
   simp[sizeOf,typeInfo,q,s,S]⟩
 have Z:∀ b,(Instr.slice 164 (zS g 0 a c) (some (zI (a:Int))) (some (zI (E.length:Int))) none).run Tryz.prog b= .ok (.slice (some (zA g (a*3))) 1 (c-a)) b:=fun b=>by
  rw[run_slice_lh b 164 _ _ c (by rw[j];exact Tryz.underlying164) .i64 .i64 (a:Int) (E.length:Int) (by omega) (by omega) (by omega),j];have N:E.length-a=1:=by omega
  have O:c≠a:=by omega
  simp[sizeOf,typeInfo,q,s,sliced,Addr.add_lit,N,O]
 have ac:((i:Int)==(i:Int)+1)=false:=by rw[Cs];omega
 clear q T s U j r m C p n x u k y W D B;generalize E.length=V at X Y H Z o;generalize V-(i+1)=ae at H o;go_in;go_wp2;refine GZ (fun b=>True) trivial fun e=>?_
 refine hq 0 20 e ?_;refine hq 1 21 e ?_;refine hq 2 22 e ?_;refine hq 3 23 e ?_;refine hq 4 24 e ?_;refine hq 5 25 e ?_;refine Gg 6 fun K v=>?_
 rw[AQ (by rfl)];refine wp_append_run (.tmp 22) (.tmp 25) 164 rfl rfl rfl (o _) ?_;rw[Ga 26 (by rfl)];dsimp only[Act.put,AZ,Bq,Bi];refine v.out _ _ trivial fun e=>?_
 clear v K;refine hq 7 0 e ?_;refine zw ?_;go_wp2_with (simp only[P]);go_ret;obtain⟨J,L,M⟩:=I.out;exact⟨by rw[M];rfl,J,L⟩

def G5 (base:Nat) (w:Bc) (k:Nat):Prop:=base<=k/\∃ a b,AX w k a b/\(a=168∨a=226)
def Hf (c:Int) (E:List EH):List EH:=match FV c E with
 |some a=>E.eraseIdx a
 |none=>E
section
variable {w w' W w3:Bc} {base t mb:Nat} {room:Int} {E:List EH} {G:List Int} {c:Int}
theorem XA:(Hf c E).length<=E.length:=by
 unfold Hf;split
 ·exact List.length_eraseIdx_le _ _
 ·exact AY _
theorem EO.pF {f:List EH} {c s:Value} (b:EO w base t mb room E G) (B:AX w t 168 #[zI room,s,.map (some mb)]) (n:W.ownsRow base 226 3 c f.length (BN Ib f)) {S:Nat->Prop} (m:Am S w W) (i:∀ k,k<w.heap.size->S k->∃ cs,AX w k 226 cs) (r:c.ownBlock≠some t) (h:∀ x∈f,x∈E) :
  EO (W.setCell (zA t 1) c) base t mb room f G/\Am (fun k=>k=t∨S k) w (W.setCell (zA t 1) c):=by
 have q:¬S t:=fun a=>by
  obtain⟨cs,d⟩:=i t B.lt a;exact Bv rfl (AX.GJ d B (by decide))
 have j:Am (fun k=>k=t∨S k) w (W.setCell (zA t 1) c):=(m.mono (S':=fun k=>k=t∨S k) fun _ _ b=>.inr b).setCell (p:=zA t 1) (fun _=>.inl rfl) c;have o:¬(mb=t∨S mb):=by
  rintro(a|a)
  ·exact b.gone.Ee B a.symm
  ·obtain⟨cs,d⟩:=i mb b.lt.2 a;exact b.gone.Ee d rfl
 refine⟨⟨b.ge,b.gm,⟨c,(B.Ab m q).Dw 1 c,Aj n ((Aa (fun k=>k=t) W).setCell (p:=zA t 1) (fun _=>rfl) c) fun l e a=>r (by rw[e,a])⟩,b.gone.Ab j o,fun x hx=>?_,fun x hx=>b.set x (h x hx),fun x hx=>b.nH x (h x hx),b.o9⟩,j⟩;have g:=b.who x (h x hx);refine Aj g j fun l e a=>?_
 rcases a with a|a
 ·subst a;exact Ba g B (by decide) e
 ·obtain⟨cs,d⟩:=i l (Gd g e) a;exact Ba g d (by decide) e
theorem Rn (a:EO w base t mb room E G) (W:E.length<=100000) (c:Int) :
  Calls Tryz.prog 174 #[.pointer (some (zA t 1)),zU c] w (Rt (.tuple #[]) fun w'=>EO w' base t mb room (Hf c E) G/\Am (G5 base w) w w'):=by
 have b:=NJ a (by omega) c;have n:=Lh a;rcases e:FV c E with _|A
 ·rw[e] at b;simp only[Im] at b;have i:=Lh b;have l:Hid (Hf c E=E):=by show Hf c E=E;unfold Hf;rw[e]
  clear b e a;go_in;go_wp2_with fail;refine i.out.mono ?_;rintro k B ⟨rfl,g⟩;go_wp2;go_end0;exact⟨rfl,by rw[l.out];exact n.out.AB g,g.mono fun _ _ a=>a.elim⟩
 ·obtain⟨S,N,O,P,z⟩:=NZ e;rw[e] at b;simp only[Im] at b;have i:=Lh b;have l:Hid (Hf c E=E.eraseIdx A):=by show Hf c E=_;unfold Hf;rw[e]
  obtain⟨Y,u,h⟩:=a.row;obtain⟨T,o,rfl⟩:=BD h;obtain⟨f,H,_⟩:=KX h z;subst H;have X:(0:Int)<=(A:Int):=by omega
  have M:(Value.slice (some (zA f 0)) E.length o).ownBlock=some f:=by simp[Value.ownBlock]
  obtain⟨K,s,y⟩:=Ic h M;have m:=Lh y;have j:=Lh u;have D:=Lh h;clear b e a N O P h u y;go_in;go_wp2_with fail;refine i.out.mono ?_;rintro k B ⟨rfl,g⟩;clear i;have p:=j.out.Ab g id;have F:Cl B t 1 (zS f 0 E.length o):=p.cell 1;have r:=Lh (gP (Aj D.out g fun _ _ a=>a) z (by omega));have C:=Lh p;clear p;go_wp2_with fail;refine r.out.mono ?_;rintro k w3 ⟨rfl,I,x⟩;have L:t≠f:=fun k=>by subst k;exact Bv rfl (AX.GJ m.out j.out (by decide))
  have v:=C.out.Ab x L;have U:Cl w3 t 1 (zS f 0 E.length o):=v.cell 1;have V:=v.frozen 1;clear r F;go_wp2;go_end0;have J:Am (fun q=>q=f) w w3:=(g.mono fun _ _ a=>a.elim).AJ x fun _ _ a=>a
  obtain⟨Q,R⟩:=n.out.pF j.out I J (fun q _ d=>⟨s,by rw[d];exact m.out⟩) (by simp[Value.ownBlock];omega) fun S hx=>Fs hx
  refine⟨rfl,by rw[l.out];exact Q,R.mono fun q _ d=>?_⟩;rcases d with d|d
  ·rw[d];exact⟨n.out.ge,_,_,j.out,.inl rfl⟩
  ·rw[d];exact⟨K,_,s,m.out,.inr rfl⟩
end

theorem VJ:(Tryz.prog.info? 25).map (fun i=>(i.zero,i.size,i.bytes))=some (some (zU 0),1,2):=by kernel_rfl
theorem JR:(Tryz.prog.info? 170).map (·.size)=some 2:=by kernel_rfl
section
variable {w w' W w3:Bc} {base t mb:Nat} {room:Int} {E:List EH} {G:List Int} {c:Int}
theorem EO.pushed {d e:Value} {y:EH} (b:EO W base t mb room E G) (f:AX W t 168 #[zI room,d,.map (some mb)]) (h:W.ownsRow base 226 3 d E.length (BN Ib E))
  (s:(W.alloc (.cells y.cs 226)).drew.grownBy w3 d.ownBlock) (o:w3.ownsRow base 226 3 e (E.length+1) (BN Ib E++y.cs.toList)) (u:∀ g,e.ownBlock=some g->d.ownBlock=some g∨W.heap.size<=g)
  (w:W.ownsRow base 27 1 (.slice y.A y.who.length y.c) y.who.length (y.who.map Value.string)) (v:D9 y.who=true) (q:Ey y.ch) :
  EO (w3.setCell (zA t 1) e) base t mb room (E++[y]) G/\Am (fun k=>k=t∨d.ownBlock=some k) W (w3.setCell (zA t 1) e):=by
 have l:Am (fun k=>d.ownBlock=some k) W w3:=(((Aa _ W).alloc _).drew).grown s fun k b _=>b
 have j:Am (fun k=>k=t∨d.ownBlock=some k) W (w3.setCell (zA t 1) e):=(l.mono (S':=fun k=>k=t∨d.ownBlock=some k) fun x _ b=>.inr b).setCell (p:=zA t 1) (fun _=>.inl rfl) _;have n:AX w3 t 168 #[zI room,d,.map (some mb)]:=f.Ab l (Ba h f (by decide));have m:∀ {a:EH},W.ownsRow base 27 1 (.slice a.A a.who.length a.c) a.who.length (a.who.map Value.string)->(w3.setCell (zA t 1) e).ownsRow base 27 1 (.slice a.A a.who.length a.c) a.who.length (a.who.map Value.string):=fun {a} hx =>
  Aj hx j fun g i c=>by
   rcases c with rfl|c
   ·exact Ba hx f (by decide) i
   ·exact Ex hx h (by decide) i c
 refine⟨⟨b.ge,b.gm,⟨e,n.Dw 1 e,?_⟩,b.gone.Ab j ?_,fun a hx=>?_,fun a hx=>?_,fun a hx=>?_,b.o9⟩,j⟩
 ·rw[Ez,Ap,Cv];have r:BN Ib [y]=y.cs.toList:=by simp[BN,Ib,Value.cells]
  rw[r];refine Aj o ((Aa (fun k=>k=t) w3).setCell (p:=zA t 1) (fun _=>rfl) e) fun g i c=>?_
  subst c;rcases u _ i with b|b
  ·exact Ba h f (by decide) b
  ·have:=f.lt;omega
 ·rintro(c|c)
  ·exact b.gone.Ee f c.symm
  ·exact b.gone.own_ne h c
 ·rcases Bd.1 hx with hx|hx
  ·exact m (b.who a hx)
  ·rw[Ai.1 hx];exact m w
 ·rcases Bd.1 hx with hx|hx
  ·exact b.set a hx
  ·rw[Ai.1 hx];exact v
 ·rcases Bd.1 hx with hx|hx
  ·exact b.nH a hx
  ·rw[Ai.1 hx];exact q
theorem G5.back {k:Nat} (g:Am (G5 base w) w W) (d:G5 base W k) (hk:k<w.heap.size):G5 base w k:=by
 by_cases b:G5 base w k
 ·exact b
 ·obtain⟨e,h,c,a,f⟩:=d;refine⟨e,h,c,?_,f⟩;unfold AX at a ⊢;rw[<- g.block k hk b];exact a
theorem EO.qY (g:EO W base t mb room E G) {a:Value} (b:AX W t 168 #[zI room,a,.map (some mb)]) (c:W.ownsRow base 226 3 a E.length (BN Ib E)) {k:Nat} (hk:k=t∨a.ownBlock=some k):G5 base W k:=by
 rcases hk with rfl|hk
 ·exact⟨g.ge,_,_,b,.inl rfl⟩
 ·obtain⟨e,d,f⟩:=Ic c hk;exact⟨e,_,d,f,.inr rfl⟩
theorem Qd (a:EO w base t mb room E G) (D:E.length<=100000) (y:EH) (I:w.ownsRow base 27 1 (.slice y.A y.who.length y.c) y.who.length (y.who.map Value.string)) (aa:D9 y.who=true) (U:Ey y.ch) :
  Calls Tryz.prog 187 #[.pointer (some (zA t 1)),zU y.ch,.agg #[.slice y.A y.who.length y.c,zI y.last]] w (Rt (.tuple #[]) fun w'=>EO w' base t mb room (Hf y.ch E++[y]) G/\Am (G5 base w) w w'):=by
 obtain⟨af,Y,ac,ad,ae⟩:=info_parts PK;have c:Hid (Au w (w.alloc (.cells #[.slice y.A y.who.length y.c,zI y.last] 170))):=Lh ((Aa _ w).alloc _);have k:Hid (AX (w.alloc (.cells #[.slice y.A y.who.length y.c,zI y.last] 170)) w.heap.size 170 #[.slice y.A y.who.length y.c,zI y.last]):=Lh (AX.new w _ _);have B:=Lh (Rn (a.AB c.out) D y.ch);have r:=Lh (Aj I c.out fun _ _ a=>a);have ar:=a.lt.1;have aq:=a.ge;have K:=Lh (a.AB c.out);clear a I;go_in;go_wp2_with fail;refine B.out.mono ?_;rintro e W ⟨rfl,m,i⟩;clear B;generalize w.alloc (.cells #[.slice y.A y.who.length y.c,zI y.last] 170)=p at c k i r K;obtain⟨l,o⟩:∃ l,l=w.heap.size:=⟨_,rfl⟩
 rw[<- o] at k;rw[<- o];have ag:=Lh o;clear o;have x:∀ {ba f d},AX p ba f d->(f=170∨f=27)->¬G5 base p ba:=fun {ba f d} n ht ⟨_,ay,aj,j,ab⟩=>by
  unfold AX at n j;rw[n] at j;injection j with j;injection j with _ V;subst V;rcases ht with rfl|rfl<;>rcases ab with a|a<;>revert a<;>decide
 have u:=k.out.Ab i (x k.out (.inl rfl));have S:=Aj r.out i fun g X=>by obtain⟨_,d,n⟩:=Ic r.out X;exact x n (.inr rfl)
 have Z:(Hf y.ch E).length<=100000:=AV XA D;clear x;generalize F:Hf y.ch E=bb at m Z;have J:=Lh F;clear F;obtain⟨az,b,h⟩:=m.row;obtain⟨q,s,rfl⟩:=BD h;have aw:Cl W l 0 (.slice y.A y.who.length y.c):=u.cell 0;have ax:Cl W l 1 (zI y.last):=u.cell 1;have ah:Cl W t 1 (.slice q bb.length s):=b.cell 1;have ai:=b.frozen 1;have av:=b.lt;have ap:=u.lt;have ao:base<=W.heap.size:=by omega
 go_wp2_with fail;go_region_law (refine step_append_lies _ (by rfl) _ _ _ (by rfl) base 226 af _ 3 40 Tryz.underlying164 Y ac ad ae rfl (by omega) (.slice q bb.length s) bb.length _ (by rfl) ((h.alloc _).drew) (zA W.heap.size 0) 1 1 [zU y.ch,.slice y.A y.who.length y.c,zI y.last] (by rfl) (by rfl) (World.news_of_block (cs:=#[zU y.ch,.slice y.A y.who.length y.c,zI y.last]) (t:=226) (fr:=(0,0)) (heap_alloc_new W _)) (by simp[Value.oneCell']) (by omega) (by unfold maxLen;omega) (by omega) (by simp;omega) (W.heap.size+1) (by simp) ?_;intro N M z L H T au;have A:AX z t 168 _:=(b.alloc _).drew.grown H (BZ (Ba h b (by decide)));have al:Cl z t 1 (.slice q bb.length s):=A.cell 1;have am:=A.frozen 1)
 all_goals
  obtain⟨hF,R⟩:=EO.pushed (y:=y) m b h H L (Yo T) S aa U;go_end0;refine⟨rfl,by rw[J.out];exact hF,?_⟩;have Q:Am (G5 base p) p (z.setCell (zA t 1) (zS N 0 (bb.length+1) M)):=i.AJ R fun ba v a=>G5.back i (m.qY b h a) v
  refine(c.out.mono fun _ _ a=>a.elim).AJ Q fun ba v a=>?_
  obtain⟨O,f,d,C,P⟩:=a;refine⟨O,f,d,?_,P⟩;unfold AX at C ⊢;rw[<- c.out.block ba v id];exact C
end

def OJ (A:Option Addr) (n c:Nat) (a:Int):Array Value:=#[.slice A n c,zI a]
def MI (c:Int) (E:List EH):Array Value:=match E.find? (fun a=>a.ch==c) with
 |some a=>OJ a.A a.who.length a.c a.last
 |none=>OJ none 0 0 0
def Nh (c:Int) (E:List EH):Bool:=(E.find? fun a=>a.ch==c).isSome
theorem M5 {c:Int}:∀ {E:List EH} {i:Nat} {x:EH},FV c E=some i->E[i]?= some x->E.find? (fun x=>x.ch==c)=some x
 |[],i,x,a,_=>by simp[FV] at a
 |y::E,i,x,a,hx=>by
  unfold FV at a;rw[List.findIdx?_cons] at a;by_cases hq:(y.ch==c)=true
  ·rw[hq] at a;have d:i=0:=by simpa using a.symm
   subst d;have:y=x:=by simpa using hx
   subst this;rw[List.find?_cons,hq]
  ·have b:(y.ch==c)=false:=by simpa using hq
   rw[b] at a;simp only[CJ,if_false,Option.map_eq_some_iff] at a;obtain⟨f,e,rfl⟩:=a;rw[List.find?_cons,b];exact M5 (E:=E) (i:=f) e (by simpa using hx)
theorem MX {c:Int} {E:List EH} (a:FV c E=none):E.find? (fun x=>x.ch==c)=none:=by
 unfold FV at a;rw[Ct] at a;rw[List.find?_eq_none];intro x hx;rw[a x hx];simp
section
variable {w w' W w3:Bc} {base t mb:Nat} {room:Int} {E:List EH} {G:List Int}
theorem bP (d:EO w base t mb room E G) (U:E.length<=100000) (c:Int) :
  Calls Tryz.prog 173 #[.pointer (some (zA t 1)),zU c] w (Rt (.tuple #[.agg (MI c E),.bool (Nh c E)]) (Au w)):=by
 have x:Hid (Au w (w.alloc (.cells #[zN,zO] 170))):=Lh ((Aa _ w).alloc _);have u:Hid (AX (w.alloc (.cells #[zN,zO] 170)) w.heap.size 170 #[zN,zO]):=Lh (AX.new w _ _);have h:=NJ (d.AB x.out) (by omega) c;have W:=d.lt.1;rcases j:FV c E with _|g
 ·rw[j] at h;simp only[Im] at h;have l:=Lh h;have n:Hid (MI c E=OJ none 0 0 0/\Nh c E=false):=by
   show MI c E=_/\Nh c E=_;unfold MI Nh;rw[MX j];exact⟨rfl,rfl⟩
  clear h j d;go_in;go_wp2_with fail;refine l.out.mono ?_;rintro L i ⟨rfl,r⟩;have a:=u.out.Ab r id;have k:=x.out.to r;have A:=a.lt;clear l u;obtain⟨b,f⟩:∃ b,b=w.heap.size:=⟨_,rfl⟩
  rw[<- f] at a A;rw[<- f];have m:=Lh f;clear f;have Q:Cl i b 0 (zN):=a.cell 0;have R:Cl i b 1 zO:=a.cell 1;have M:=a.frozen 0;have N:=a.frozen 1;go_wp2;refine bodyPost_ret (v:=.tuple #[.agg (OJ none 0 0 0),.bool false]) (CB (p:=4) (q:=5) Tryz.results173 _ rfl rfl (((a.Dw 0 _).Dw 1 _).alloc _) Tryz.underlying170 rfl JR) rfl ⟨by rw[n.out.1,n.out.2],?_⟩;exact((k.setCell (p:=zA b 0) (fun d=>by have:=m.out;simp at d;omega) _).setCell (p:=zA b 1) (fun d=>by have:=m.out;simp at d;omega) _).alloc _
 ·obtain⟨e,v,O,P,H⟩:=NZ j;rw[j] at h;simp only[Im] at h;have l:=Lh h;have n:Hid (MI c E=OJ e.A e.who.length e.c e.last/\Nh c E=true):=by
   show MI c E=_/\Nh c E=_;unfold MI Nh;rw[M5 j v];exact⟨rfl,rfl⟩
  have X:(0:Int)<=(g:Int):=by omega
  have Y:(g:Int)<(E.length:Int):=by omega
  have Z:¬(g:Int)<0:=by omega
  obtain⟨I,C,y⟩:=d.row;obtain⟨S,K,rfl⟩:=BD y;obtain⟨o,s,rfl,D,z⟩:=(Ay.Hu (V:=Ib) (fun _=>rfl) y) g H;have F:E[g]=e:=by rw[Ah H] at v;injection v
  rw[F] at z;have B:=Lh z;have J:=Lh C;clear h j d v O P y C F z;go_in;go_wp2_with fail;refine l.out.mono ?_;rintro L i ⟨rfl,r⟩;have a:=u.out.Ab r id;have k:=x.out.to r;have A:=a.lt;have T:Cl i t 1 (zS o s E.length K):=(J.out.Ab k id).cell 1;have aa:Cl i o (s+g*3+1) (.slice e.A e.who.length e.c):=(k.cell (p:=zA o (s+g*3+1)) D id).trans (B.out 1 (by omega));have ab:Cl i o (s+g*3+2) (zI e.last):=(k.cell (p:=zA o (s+g*3+2)) D id).trans (B.out 2 (by omega));clear l u;obtain⟨b,f⟩:∃ b,b=w.heap.size:=⟨_,rfl⟩
  rw[<- f] at a A;rw[<- f];have m:=Lh f;clear f;have Q:Cl i b 0 (zN):=a.cell 0;have R:Cl i b 1 zO:=a.cell 1;have M:=a.frozen 0;have N:=a.frozen 1;go_wp2;refine bodyPost_ret (v:=.tuple #[.agg (OJ e.A e.who.length e.c e.last),.bool true]) (CB (p:=4) (q:=5) Tryz.results173 _ rfl rfl ((a.Dw 0 _).Dw 1 _) Tryz.underlying170 rfl JR) rfl ⟨by rw[n.out.1,n.out.2],?_⟩;exact(k.setCell (p:=zA b 0) (fun d=>by have:=m.out;simp at d;omega) _).setCell (p:=zA b 1) (fun d=>by have:=m.out;simp at d;omega) _
def lM (x:EH):Value:=zU x.ch
theorem TU (g:EO w base t mb room E G) (ac:E.length<=100000) :
  Calls Tryz.prog 69 #[.pointer (some (zA t 1))] w fun e w'=>∃ A c,e= .returned (.slice A E.length c)/\w'.ownsRow w.heap.size 25 1 (.slice A E.length c) E.length (E.map lM)/\Au w w':=by
 obtain⟨X,S,T,U,W⟩:=info_parts VJ;obtain⟨z,m,n⟩:=g.row;obtain⟨C,M,rfl⟩:=BD n;have J:Cl w t 1 (.slice C E.length M):=m.cell 1;have F:=Lh (Ay.Hu (V:=Ib) (fun _=>rfl) n);have ah:=m.lt;clear n m g;go_in;go_wp2;go_loopg [3,11] E.length fun gk z am wr=>∃ (b:Nat) (d:List EH),b+gk=E.length/\am=zI b/\d=E.take b/\wr.ownsRow w.heap.size 25 1 z d.length (d.map lM)/\Au w wr
 case atStart=>exact⟨0,[],Bz _,rfl,rfl,⟨rfl,.inl ⟨rfl,rfl⟩⟩,Aa _ _⟩
 case round =>
  clear J;obtain⟨b,d,af,rfl,hF,j,h⟩:=hrel;have ad:d.length<=b:=by rw[hF,BA];omega
  have r:=Lh hF;obtain⟨B,L,rfl⟩:=BD j;have aj:=h.size;clear hF;by_cases y:b<E.length
  ·obtain⟨f,l,rfl,Q,o⟩:=F.out b y;obtain⟨a,q⟩:∃ a,a=E[b]:=⟨_,rfl⟩
   have H:Hid (d++[a]=E.take (b+1)):=by show d++[a]=_;rw[AP y,<- r.out,q]
   rw[<- q] at o;have i:=fun am R=>(h.cell (p:=zA f (l+b*3+am)) Q id).trans (o am R)
   have Z:Cl wr f (l+b*3) (zU a.ch):=i 0 (by omega);have aa:Cl wr f (l+b*3+1) (.slice a.A a.who.length a.c):=i 1 (by omega);have ab:Cl wr f (l+b*3+2) (zI a.last):=i 2 (by omega);have ak:(0:Int)<=(b:Int):=by omega
   have Y:(b:Int)<(E.length:Int):=by omega
   have ae:f<wr.heap.size:=by omega
   clear q o i;have v:Au w (wr.alloc (.cells #[zU a.ch,.slice a.A a.who.length a.c,zI a.last] 226)):=h.alloc _;go_wp2_with (at_builtin;refine wpList_append_lies _ rfl (.tmp 15) (.tmp 18) 78 rfl w.heap.size 25 X _ 1 2 Tryz.underlying78 S T U W rfl (by omega) (.slice B d.length L) d.length _ rfl ((j.alloc _).alloc _) (zA (wr.heap.size+1) 0) 1 1 [zU a.ch] rfl rfl (World.news_of_block (cs:=#[zU a.ch]) (t:=25) (fr:=(0,0)) (by have u:=heap_alloc_new (wr.alloc (.cells #[zU a.ch,.slice a.A a.who.length a.c,zI a.last] 226)) (.cells #[zU a.ch] 25);rw[World.size_alloc] at u;exact u)) (by simp[Value.oneCell']) (by omega) (by unfold maxLen;omega) (by omega) (by simp;omega) (wr.heap.size+1+1) (by simp) ?_;intro N K w3 s x P ai);have O:Au w w3:=(v.alloc _).grown x fun k g ag=>by have:=BQ j g;omega
   have I:w3.ownsRow w.heap.size 25 1 (zS N 0 (d.length+1) K) (d++[a]).length ((d++[a]).map lM):=by
    rw[Bw,Ap,Cv];exact s
   clear s x P v;go_roundg (gk-1)
   case measure=>omega
   case rel=>exact⟨b+1,d++[a],by omega,by go_num,H.out,I,O⟩
  ·have Y:¬(b:Int)<(E.length:Int):=by omega
   have D:d=E:=by rw[r.out,Bt (by omega)]
   subst D;go_wp2;go_ret;exact⟨_,_,rfl,j,h⟩
theorem QS (w:Bc):Calls Tryz.prog 130 #[zN] w (Rt (zN) fun w'=>w=w'):=by
 have hq:=fun W=>Lib.run_eql_slice_nil (P:=Tryz.prog) W 29 27 none 0 0 0 0 Tryz.underlying29
 go_in;go_wp2;go_ret;exact⟨rfl,rfl⟩
theorem JG (b:Addr) (c:Nat) (a:List BB) (w:Bc) (x:a.length<=100000) (j:Ay Value.string w w.heap.size 1 (some b) a) :
  Calls Tryz.prog 130 #[.slice (some b) a.length c] w fun e w'=>∃ f g,e= .returned (.slice f a.length g)/\w'.ownsRow w.heap.size 27 1 (.slice f a.length g) a.length (a.map Value.string)/\Au w w':=by
 obtain⟨t,n,q,r,s⟩:=info_parts Iz;have hq:=fun W=>Lib.run_eql_slice_nil (P:=Tryz.prog) W 29 27 (some b) a.length c 0 0 Tryz.underlying29
 have h:=IG w w.heap.size 27 1 (AY _);have o:=j.below (w':=w.alloc (.cells #[] 27)) fun k i=>Below.heap_alloc w _ k i
 have p:w.heap.size<=(w.alloc (.cells #[] 27)).heap.size:=by simp
 clear j;go_in;go_wp2_with (at_builtin;refine ER (V:=Value.string) rfl (.tmp 5) (.tmp 6) 29 rfl w.heap.size 27 t _ 1 16 Tryz.underlying29 n q r s rfl (by omega) (fun _=>rfl) MK _ _ _ rfl h _ (some b) _ c a rfl rfl o (by unfold maxLen;omega) (by omega) p ?_;intro y z d m;rw[Bz,BU,I8 fun _=>rfl] at d;obtain⟨u,v,rfl⟩:=BD d);go_ret;exact⟨_,_,rfl,d,((Aa _ w).alloc _).grown m fun k l i=>by have:=BQ h l;omega⟩
end

section
open Go.Maps (Keyed)
theorem JS:Keyed Tryz.prog 25:=Go.Maps.int_keyed Tryz.underlying25
theorem wf_u16 {a:Int} (b:Ey a):(Lit.int .u16 a).wf=true:=by
 obtain⟨c,d⟩:=b;simp only[Lit.wf];have:IntKind.u16.min=0/\IntKind.u16.max=65535:=by decide
 simp[this.1,this.2];omega
theorem KC {c:Int} (a:Ey c):MO Tryz.prog 25 (zU c):=⟨_,Go.Maps.keyOf_int_mk Tryz.underlying25 (wf_u16 a)⟩
def J6 (c:Int) (G:List Int):Bool:=decide (c∈G)
section
variable {w w' W w3:Bc} {base t mb:Nat} {room:Int} {E:List EH} {G:List Int}
theorem ZY {c:Int}:QX c∈G.map QX↔c∈G:=by
 constructor
 ·intro b;obtain⟨e,d,a⟩:=Bp.1 b;unfold QX at a;injection a with a _;injection a with _ a;rw[<- a];exact d
 ·intro b;exact Bp.2 ⟨c,b,rfl⟩
theorem EO.look (d:EO w base t mb room E G) {c:Int} (e:Ey c):(Instr.lookup 125 (.map (some mb)) (zU c) true).run Tryz.prog w= .ok (.tuple #[.agg #[],.bool (J6 c G)]) w:=by
 by_cases b:c∈G
 ·have:=d.gone.Nl (e:=220) JS Tryz.underlying125 (ZY.2 b) true;unfold J6;rw[BH b];exact this
 ·have:=d.gone.OQ (e:=220) (z:=.agg #[]) JS Tryz.underlying125 (by kernel_rfl) (KC e) (fun i g a=>by
   obtain⟨h,f,rfl⟩:=Bp.1 g;unfold QX at a;injection a with _ a;exact b (a ▸ f)) true
  unfold J6;rw[BC b];exact this
theorem PH (a:EO w base t mb room E G) {c:Int} (e:Ey c) :
  Calls Tryz.prog 172 #[zP t,zU c] w (Rt (.bool (J6 c G)) (Au w)):=by
 obtain⟨i,b,_⟩:=a.row;have f:Cl w t 2 (.map (some mb)):=b.cell 2;have g:=a.look e;have h:=b.lt;have d:Hid (Au w (w.alloc (.cells #[] 220))):=Lh ((Aa _ w).alloc _);clear b a;go_in;go_wp2;go_ret;exact⟨rfl,d.out⟩
def Ki (c:Int) (E:List EH) (G:List Int):Array Value:=if J6 c G then OJ none 0 0 0 else MI c E
def IB (c:Int) (E:List EH) (G:List Int):Int:=if J6 c G then 21 else if Nh c E then 0 else 10
theorem QW (b:EO w base t mb room E G) (T:E.length<=100000) {c:Int} (U:Ey c) :
  Calls Tryz.prog 135 #[zP t,zU c] w (Rt (.tuple #[.agg (Ki c E G),zI (IB c E G)]) (Au w)):=by
 have A:Hid (Au w (w.alloc (.cells #[zN,zO] 170))):=Lh ((Aa _ w).alloc _);have x:Hid (AX (w.alloc (.cells #[zN,zO] 170)) w.heap.size 170 #[zN,zO]):=Lh (AX.new w _ _);have n:=PH (b.AB A.out) U;have P:=Lh b;clear b;rcases o:J6 c G with _|_
 ·have i:Hid (Ki c E G=MI c E/\IB c E G=if Nh c E then 0 else 10):=by
   show Ki c E G=_/\IB c E G=_;unfold Ki IB;rw[o];exact⟨rfl,rfl⟩
  rw[o] at n;have r:=Lh n;clear o n;have H:Hid (∃ g m j l,MI c E=OJ g m j l):=by
   show ∃ g m j l,MI c E=OJ g m j l;unfold MI;split
   ·exact⟨_,_,_,_,rfl⟩
   ·exact⟨_,_,_,_,rfl⟩
  obtain⟨g,m,j,l,C⟩:=H.out;have O:Hid (Nh c E=false->OJ g m j l=OJ none 0 0 0):=by
   intro f;rw[<- C];unfold Nh at f;unfold MI;rcases L:E.find? (fun N=>N.ch==c) with _|N
   ·rw[L]
   ·rw[L] at f;cases f
  have B:=Lh C;clear C H;go_in;go_wp2_with fail;refine r.out.mono ?_;rintro I D ⟨rfl,u⟩;have y:=A.out.to u;have d:=x.out.Ab u id;have z:=bP (P.out.AB y) T c;rw[B.out] at z;have F:=Lh z;clear z r x;obtain⟨a,e⟩:∃ a,a=w.heap.size:=⟨_,rfl⟩
  rw[<- e] at d;rw[<- e];have h:=Lh e;clear e;go_wp2_with fail;refine F.out.mono ?_;rintro I w3 ⟨rfl,K⟩;have J:=y.to K;have k:=d.Ab K id;have X:=k.lt;have V:Cl w3 a 0 (zN):=k.cell 0;have W:Cl w3 a 1 zO:=k.cell 1;have R:=k.frozen 0;have S:=k.frozen 1;clear F;rcases f:Nh c E with _|_
  ·have M:=O.out f;have Q:=Lh M;have s:Hid (Ki c E G=OJ none 0 0 0/\IB c E G=10):=by
    refine⟨by rw[i.out.1,B.out,Q.out],by rw[i.out.2,f];rfl⟩
   clear f M;unfold OJ;go_wp2;refine bodyPost_ret (v:=.tuple #[.agg (OJ none 0 0 0),zI 10]) (CB (p:=4) (q:=5) Tryz.results135 _ rfl rfl (((k.Dw 0 _).Dw 1 _).alloc _) Tryz.underlying170 rfl JR) rfl ⟨by rw[s.out.1,s.out.2],?_⟩;exact((J.setCell (p:=zA a 0) (fun b=>by have:=h.out;simp at b;omega) _).setCell (p:=zA a 1) (fun b=>by have:=h.out;simp at b;omega) _).alloc _
  ·have s:Hid (Ki c E G=OJ g m j l/\IB c E G=0):=by
    refine⟨by rw[i.out.1,B.out],by rw[i.out.2,f];rfl⟩
   clear f;unfold OJ;go_wp2;refine bodyPost_ret (v:=.tuple #[.agg (OJ g m j l),zO]) (CB (p:=4) (q:=5) Tryz.results135 _ rfl rfl (((k.Dw 0 _).Dw 1 _).alloc _) Tryz.underlying170 rfl JR) rfl ⟨by rw[s.out.1,s.out.2],?_⟩;exact((J.setCell (p:=zA a 0) (fun b=>by have:=h.out;simp at b;omega) _).setCell (p:=zA a 1) (fun b=>by have:=h.out;simp at b;omega) _).alloc _
 ·have i:Hid (Ki c E G=OJ none 0 0 0/\IB c E G=21):=by
   show Ki c E G=_/\IB c E G=_;unfold Ki IB;rw[o];exact⟨rfl,rfl⟩
  rw[o] at n;have r:=Lh n;clear o n;go_in;go_wp2_with fail;refine r.out.mono ?_;rintro I D ⟨rfl,u⟩;have y:=A.out.to u;have d:=x.out.Ab u id;clear r x;obtain⟨a,e⟩:∃ a,a=w.heap.size:=⟨_,rfl⟩
  rw[<- e] at d;rw[<- e];have h:=Lh e;clear e;have V:Cl D a 0 (zN):=d.cell 0;have W:Cl D a 1 zO:=d.cell 1;have R:=d.frozen 0;have S:=d.frozen 1;go_wp2;refine bodyPost_ret (v:=.tuple #[.agg (OJ none 0 0 0),zI 21]) (CB (p:=4) (q:=5) Tryz.results135 _ rfl rfl ((d.Dw 0 _).Dw 1 _) Tryz.underlying170 rfl JR) rfl ⟨by rw[i.out.1,i.out.2],?_⟩;exact(y.setCell (p:=zA a 0) (fun b=>by have:=h.out;simp at b;omega) _).setCell (p:=zA a 1) (fun b=>by have:=h.out;simp at b;omega) _
theorem VD (d:EO w base t mb room E G) (x:E.length<=100000) {c:Int} (s:Ey c) (h:c∉G) :
  Calls Tryz.prog 136 #[zP t,zU c] w (Rt (.tuple #[]) fun w'=>EO w' base t mb room (Hf c E) (G++[c])/\Am (Io base mb w) w w'):=by
 have m:=Lh (Rn d x c);have F:=d.lt;have C:=Lh d;clear d;go_in;go_wp2_with fail;refine m.out.mono ?_;rintro b f ⟨rfl,a,r⟩;obtain⟨B,k,l⟩:=a.row;have D:Cl f t 2 (.map (some mb)):=k.cell 2;obtain⟨j,A,q⟩:=a.gone.Nv JS Tryz.underlying125 (KC s) (fun H z b=>by
  obtain⟨p,e,rfl⟩:=Bp.1 z;unfold QX at b;injection b with _ b;exact h (b ▸ e)) (.agg #[])
 have g:Am (fun i=>i=mb) f (ChangeMaps.setBlock f mb j):=(Aa (fun i=>i=mb) f).setBlock (fun _=>rfl) j;have n:Hid (EO (ChangeMaps.setBlock f mb j) base t mb room (Hf c E) (G++[c])):=by
  have y:t≠mb:=a.gone.Ee k;refine⟨a.ge,a.gm,⟨B,k.Ab g y,Aj l g fun v h b=>a.gone.own_ne l (b ▸ h)⟩,by rw[Bw];exact q,fun u hx=>Aj (a.who u hx) g fun v h b=>a.gone.own_ne (a.who u hx) (b ▸ h),a.set,a.nH,fun p e=>?_⟩;rcases Bd.1 e with e|e
  ·exact a.o9 p e
  ·rw[Ai.1 e];exact s
 have o:Hid (Am (Io base mb w) w (ChangeMaps.setBlock f mb j)):=Lh ((r.mono fun i _ d=>.inr d).AJ g fun i _ d=>.inl d);clear m a k l q g r;generalize ChangeMaps.setBlock f mb j=w3 at A n o;go_wp2;go_end0;exact⟨rfl,n.out,o.out⟩
end
end
def JN (c:Int) (E:List EH):Option EH:=E.find? fun a=>a.ch==c
def KE (c:Int) (E:List EH) (G:List Int):Option EH:=if J6 c G then none else JN c E
def OM (c:Int) (E:List EH) (G:List Int):List BB:=match KE c E G with
 |some a=>a.who
 |none=>[]
section
variable {w w' W w3:Bc} {base t mb:Nat} {room:Int} {E:List EH} {G:List Int} {c:Int}
theorem NY {x:EH} (b:KE c E G=some x):Ki c E G=OJ x.A x.who.length x.c x.last/\IB c E G=0/\J6 c G=false/\c∉G/\x∈E/\x.ch=c:=by
 unfold KE at b;rcases a:J6 c G with _|_
 ·rw[a] at b;have d:JN c E=some x:=b;unfold JN at d;refine⟨?_,?_,rfl,fun e=>?_,List.mem_of_find?_eq_some d,by simpa using List.find?_some d⟩
  ·unfold Ki MI;rw[a,d];rfl
  ·unfold IB Nh;rw[a,d];rfl
  ·unfold J6 at a;rw[BH e] at a;cases a
 ·rw[a] at b;cases b
theorem Ro (b:KE c E G=none):Ki c E G=OJ none 0 0 0/\IB c E G≠0:=by
 unfold KE at b;rcases a:J6 c G with _|_
 ·rw[a] at b;have d:JN c E=none:=b;unfold JN at d;constructor
  ·unfold Ki MI;rw[a,d];rfl
  ·unfold IB Nh;rw[a,d];simp
 ·constructor
  ·unfold Ki;rw[a];rfl
  ·unfold IB;rw[a];simp
def qH (room:Int) (w:Bc) (e:Ending) (w':Bc):Prop :=
 ((room<1∨50<room)/\e= .returned (.pointer none)/\w=w')∨(1<=room/\room<=50)/\∃ t mb,e= .returned (zP t)/\(∀ base,base<=w.heap.size->EO w' base t mb room [] [])/\Au w w'/\w.heap.size<=t/\w.heap.size<=mb
theorem Ya (room:Int) (w:Bc) (j:i64 room):Calls Tryz.prog 87 #[zI room] w (qH room w):=by
 by_cases g:1<=room
 ·have e:decide (room<1)=false:=dF;by_cases h:room<=50
  ·have f:decide (50<room)=false:=dF;have k:=@run_makeMap Tryz.prog;have c:Hid (∀ base,base<=w.heap.size->EO ((w.alloc (.map #[] 0)).alloc (.cells #[zI room,zN,.map (some w.heap.size)] 168)) base (w.heap.size+1) w.heap.size room [] []):=fun base i=>by
    have b:=AX.new (w.alloc (.map #[] 0)) 168 #[zI room,zN,.map (some w.heap.size)];rw[World.size_alloc] at b;exact⟨by omega,i,⟨_,b,⟨by simp[BN],.inl ⟨rfl,rfl⟩⟩⟩,(Cw.new w _ _).alloc _,fun a hx=>(by cases hx),fun a hx=>(by cases hx),fun a hx=>(by cases hx),fun a hx=>(by cases hx)⟩
   have d:Hid (Au w ((w.alloc (.map #[] 0)).alloc (.cells #[zI room,zN,.map (some w.heap.size)] 168))):=Lh (((Aa _ w).alloc _).alloc _);go_in;go_wp2;go_ret;exact .inr ⟨⟨g,h⟩,_,_,rfl,c.out,d.out,by omega,AY _⟩
  ·have f:decide (50<room)=true:=by rw[Bb];omega
   go_in;go_wp2;go_ret;exact .inl ⟨.inr (by omega),rfl,rfl⟩
 ·have e:decide (room<1)=true:=by rw[Bb];omega
  go_in;go_wp2;go_ret;exact .inl ⟨.inl (by omega),rfl,rfl⟩
theorem Xn (b:EO w base t mb room E G) (g:E.length<=100000) :
  Calls Tryz.prog 40 #[zP t] w fun e w'=>∃ A c,e= .returned (.slice A E.length c)/\w'.ownsRow w.heap.size 25 1 (.slice A E.length c) E.length (E.map lM)/\Au w w':=by
 have a:=Lh (TU b g);clear b;go_in;go_wp2_with fail;refine a.out.mono ?_;rintro e h ⟨A,c,rfl,d,f⟩;clear a;go_wp2;go_ret;exact⟨_,_,rfl,d,f⟩
theorem YR (i:EO w base t mb room E G) (z:E.length<=100000) (C:Ey c) :
  Calls Tryz.prog 215 #[zP t,zU c] w fun e w'=>∃ m o,e= .returned (.tuple #[.slice m (OM c E G).length o,zI (IB c E G)])/\w'.ownsRow w.heap.size 27 1 (.slice m (OM c E G).length o) (OM c E G).length ((OM c E G).map Value.string)/\Au w w':=by
 have a:=QW i z C;rcases f:KE c E G with _|b
 ·obtain⟨j,k⟩:=Ro f;have n:Hid (OM c E G=[]):=by show OM c E G=[];unfold OM;rw[f]
  rw[j] at a;unfold OJ at a;generalize IB c E G=F at a;have h:=Lh a;clear a j k f i;go_in;go_wp2_with fail;refine h.out.mono ?_;rintro e x ⟨rfl,p⟩;clear h;go_wp2_with fail;refine(QS _).mono ?_;rintro e w3 ⟨rfl,rfl⟩;go_wp2;go_ret2;rw[n.out];exact⟨none,0,rfl,⟨rfl,.inl ⟨rfl,rfl⟩⟩,p.alloc _⟩
 ·obtain⟨j,k,_,_,hx,_⟩:=NY f;have n:Hid (OM c E G=b.who):=by show OM c E G=_;unfold OM;rw[f]
  have v:=Cm (i.set b hx);have r:=i.reads hx;obtain⟨d,g,l⟩:∃ d g,b.A=some (zA d g):=by
   obtain⟨d,g,l,_⟩:=r 0 (by omega);exact⟨d,g,l⟩
  have H:b.who.length<=16:=v.2.1;have u:=Lh r;rw[j,k,l] at a;unfold OJ at a;have h:=Lh a;have y:=Lh k;rw[l] at u;clear a j k f i r v l;go_in;go_wp2_with fail;refine h.out.mono ?_;rintro e x ⟨rfl,p⟩;clear h;have q:Au w (x.alloc (.cells #[zS d g b.who.length b.c,zI b.last] 170)):=p.alloc _;have s:=Lh (JG (zA d g) b.c b.who _ (by omega) (u.out.AB q));have D:=q.size;go_wp2_with fail;refine s.out.mono ?_;rintro e I ⟨m,o,rfl,B,A⟩;clear s;go_wp2;go_ret2;rw[n.out,y.out];exact⟨_,_,rfl,MB B D,q.to A⟩
end

def EH.to (x:EH) (seq:Int):EH:=⟨x.ch,x.A,x.c,x.who,seq⟩
def Kb (c seq:Int) (E:List EH) (G:List Int):Int:=match KE c E G with
 |some a=>if seq<0 then 5 else if seq<=a.last then 14 else 0
 |none=>IB c E G
def ML (c seq:Int) (E:List EH) (G:List Int):List EH:=match KE c E G with
 |some a=>if seq<0 then E else if seq<=a.last then E else Hf c E++[a.to seq]
 |none=>E
section
variable {w w' W w3:Bc} {base t mb:Nat} {room:Int} {E:List EH} {G:List Int} {c:Int}
theorem G5.not {ty:TypeId} {cs:Array Value} {k:Nat} (b:AX w k ty cs) (c:ty≠168) (d:ty≠226):¬G5 base w k:=fun⟨_,f,g,a,ht⟩=>by
 have e:ty=f:=by
  unfold AX at b a;rw[b] at a;injection a with a;injection a
 subst e;rcases ht with ht|ht
 ·exact c ht
 ·exact d ht
theorem G5.since (e:Au w W) {k:Nat} (hk:k<w.heap.size) (c:G5 base W k):G5 base w k:=by
 obtain⟨d,f,b,a,ht⟩:=c;refine⟨d,f,b,?_,ht⟩;unfold AX at a ⊢;rw[<- e.block k hk id];exact a
theorem YN (a:EO w base t mb room E G) (u:E.length<=100000) (z:Ey c) (seq:Int) :
  Calls Tryz.prog 190 #[zP t,zU c,zI seq] w (Rt (zI (Kb c seq E G)) fun w'=>EO w' base t mb room (ML c seq E G) G/\Am (Io base mb w) w w'):=by
 have e:=QW a u z;have n:=Lh a;have O:=a.lt;rcases g:KE c E G with _|b
 ·obtain⟨k,l⟩:=Ro g;have d:Hid (Kb c seq E G=IB c E G/\ML c seq E G=E):=by
   show Kb c seq E G=_/\ML c seq E G=_;unfold Kb ML;rw[g];exact⟨rfl,rfl⟩
  rw[k] at e;unfold OJ at e;have H:(IB c E G != 0)=true:=by rw[bne_iff_ne];exact l
  generalize IB c E G=N at e H d;have h:=Lh e;clear e k l g a;go_in;go_wp2_with fail;refine h.out.mono ?_;rintro o i ⟨rfl,f⟩;clear h;go_wp2;go_ret;exact⟨by rw[d.out.1];rfl,by rw[d.out.2];exact n.out.AB (f.alloc _),(f.alloc _).mono fun _ _ a=>a.elim⟩
 ·obtain⟨k,l,_,P,hx,A⟩:=NY g;rw[k,l] at e;unfold OJ at e;have h:=Lh e;by_cases j:seq<0
  ·have d:Hid (Kb c seq E G=5/\ML c seq E G=E):=by
    show Kb c seq E G=_/\ML c seq E G=_;unfold Kb ML;rw[g];simp only[j,if_true];exact⟨trivial,trivial⟩
   have I:decide (seq<0)=true:=by simpa using j
   clear e k l g a j;go_in;go_wp2_with fail;refine h.out.mono ?_;rintro o i ⟨rfl,f⟩;clear h;go_wp2;go_ret;exact⟨by rw[d.out.1];rfl,by rw[d.out.2];exact n.out.AB (f.alloc _),(f.alloc _).mono fun _ _ a=>a.elim⟩
  ·have I:decide (seq<0)=false:=by simpa using j
   by_cases hs1:seq<=b.last
   ·have d:Hid (Kb c seq E G=14/\ML c seq E G=E):=by
     show Kb c seq E G=_/\ML c seq E G=_;unfold Kb ML;rw[g];simp only[j,hs1,if_true,if_false];exact⟨trivial,trivial⟩
    have J:decide (seq<=b.last)=true:=by simpa using hs1
    clear e k l g a j hs1;go_in;go_wp2_with fail;refine h.out.mono ?_;rintro o i ⟨rfl,f⟩;clear h;go_wp2;go_ret;exact⟨by rw[d.out.1];rfl,by rw[d.out.2];exact n.out.AB (f.alloc _),(f.alloc _).mono fun _ _ a=>a.elim⟩
   ·have d:Hid (Kb c seq E G=0/\ML c seq E G=Hf c E++[b.to seq]):=by
     show Kb c seq E G=_/\ML c seq E G=_;unfold Kb ML;rw[g];simp only[j,hs1,if_false];exact⟨trivial,trivial⟩
    have J:decide (seq<=b.last)=false:=by simpa using hs1
    have C:=Lh (a.set b hx);have D:=Lh (a.who b hx);have s:=Lh A;clear e k l g a j hs1 hx A;go_in;go_wp2_with fail;refine h.out.mono ?_;rintro o i ⟨rfl,f⟩;clear h;have L:Au w (i.alloc (.cells #[.slice b.A b.who.length b.c,zI seq] 170)):=f.alloc _;have p:=L.drew;have q:AX (i.alloc (.cells #[.slice b.A b.who.length b.c,zI seq] 170)).drew i.heap.size 170 #[.slice b.A b.who.length b.c,zI seq]:=AX.new i _ _;have r:=Qd (n.out.AB p) u (b.to seq) (Aj D.out p fun _ _ a=>a) C.out (by show Ey b.ch;rw[s.out];exact z);rw[show(b.to seq).ch=c from s.out] at r;have B:=Lh r;clear r;go_wp2;refine GZ (fun W=>Cl W i.heap.size 0 (.slice b.A b.who.length b.c)/\Cl W i.heap.size 1 (zI seq)) ⟨q.cell 0,q.cell 1⟩ fun m=>?_
    refine hq 0 29 m ?_;refine hq 1 30 m ?_;refine hq 2 31 m ?_;refine hq 3 32 m ?_;refine hq 4 33 m ?_;refine Gg 5 fun F v=>?_
    go_simp;go_at_call 187;refine B.out.mono ?_;rintro o R ⟨rfl,K,y⟩;go_wp2_with fail;have x:=q.Ab y (G5.not q (by decide) (by decide));refine v.out _ _ (by exact⟨x.cell 0,x.cell 1⟩) fun m=>?_
    clear v F;refine zw ?_;go_wp2;go_ret;refine⟨by rw[d.out.1];rfl,by rw[d.out.2];exact K,(p.mono fun _ _ a=>a.elim).AJ y fun Q M a=>.inr (G5.since p M a)⟩
end

end Go.Proofs.YtcjcndnjpedniaaGreat
