/- A part of the proof of TopUsers. -/
import Derived.Deep.MidRow
import Derived.Laws.Rows
import Derived.BigQuiet
import Derived.Laws.BitsLemmas
import Derived.Laws.BytesString
import Derived.Deep.RegionLaw
import Derived.Test.YtcjcndnjpedniaaGreatB1
namespace Go.Proofs.YtcjcndnjpedniaaGreat
set_option linter.all false
set_option maxRecDepth 100000
set_option maxHeartbeats 8000000
open Go.RowKit
section
variable {P:Program} {w:Bc} {ops:Array Oper} {rest:List Oper} {o:Oper} {a:Act} {Q:Exit->Act->Bc->Prop} {K:Act->Bc->Prop} {g:Nat} {t ty:TypeId} {cs cs':Array Value} {d:TypeDesc}
theorem IR (a:AX w g t cs) (c:P.underlying ty=some d) (e:d.isRow=true) (b:(P.info? ty).map (·.size)=some cs.size):(loadVar ty (zA g 0)).run P w= .ok (.agg cs) w :=
 run_loadVar_row w g t ty cs (0,0) d a c (by cases d<;>simp_all [TypeDesc.isRow]) b
theorem UW (x:Operand) (h:o.op= .load ty x) (hx:a.eval x=zP g) (c:AX w g t cs) (i:P.underlying ty=some d) (e:d.isRow=true) (f:(P.info? ty).map (·.size)=some cs.size)
  (b:K (a.put o.dst (.agg cs)) w):o.wp P a w K Q:=by
 unfold Oper.wp execOp;simp only[h,hx,Instr.loadAt,Instr.sureAddr,Sem.run_bind,Sem.run_pure,Result.andThen_ok,IR c i e f];exact b
theorem AA (h:o.guard=none) (x:Operand) (j:o.op= .load ty x) (hx:a.eval x=zP g) (c:AX w g t cs) (k:P.underlying ty=some d) (f:d.isRow=true) (i:(P.info? ty).map (·.size)=some cs.size)
  (b:wpList P ops Q rest (a.put o.dst (.agg cs)) w):wpList P ops Q (o::rest) a w :=
 wpList_plain h fun _ e=>UW x j hx c k f i (e _ _ b)
theorem Ce (x:Operand) (f:o.op= .load ty x) (hx:a.eval x=zP g) (b:AX w g t cs) (h:P.underlying ty=some d) (c:d.isRow=true) (e:(P.info? ty).map (·.size)=some cs.size) :
  (execOp a.eval o).run P w= .ok (.value (.agg cs)) w:=by
 unfold execOp;simp only[f,hx,Instr.loadAt,Instr.sureAddr,Sem.run_bind,Sem.run_pure,Result.andThen_ok,IR b h c e]
theorem GU (a:AX w g t cs) (cs':Array Value):AX (w.setRow g cs') g t cs':=by
 unfold AX at *;simp[World.setRow,E8,a]
theorem EY (w:Bc) (g:Nat) (cs':Array Value):Am (fun i=>i=g) w (w.setRow g cs') :=
 ⟨rfl,rfl,rfl,by simp,fun b _ a=>by simp[World.setRow,E8,BZ a]⟩
theorem Ck (x y:Operand) (f:o.op= .store ty x y) (hx:a.eval x=zP g) (j:a.eval y= .agg cs') (b:AX w g t cs) (e:(P.info? ty).map (·.size)=some cs'.size) (h:cs.size=cs'.size) (d:cs'.all (·.oneCell')=true)
  (c:AX (w.setRow g cs') g t cs'->Am (fun i=>i=g) w (w.setRow g cs')->(w.setRow g cs').heap.size=w.heap.size->K (a.put o.dst undef) (w.setRow g cs')):o.wp P a w K Q:=by
 unfold Oper.wp execOp;simp only[f,hx,j,Instr.storeAt,Instr.sureAddr,Sem.run_bind,Sem.run_pure,Result.andThen_ok,run_storeVar_row w g t ty cs cs' b e h d];exact c (GU b cs') (EY w g cs') (by simp)
theorem Bo (k:o.guard=none) (x y:Operand) (m:o.op= .store ty x y) (hx:a.eval x=zP g) (p:a.eval y= .agg cs') (h:AX w g t cs) (l:(P.info? ty).map (·.size)=some cs'.size) (n:cs.size=cs'.size) (f:cs'.all (·.oneCell')=true)
  (e:∀ w',AX w' g t cs'->Am (fun i=>i=g) w w'->w'.heap.size=w.heap.size->wpList P ops Q rest (a.put o.dst undef) w'):wpList P ops Q (o::rest) a w :=
 wpList_plain k fun _ j=>Ck x y m hx p h l n f fun b c d=>j _ _ (e _ b c d)
theorem CB {a:Func} {p q:Nat} (b:a.results=#[.cell p ty,.tmp q]) (tmps:Array Value) {v:Value} (h:tmps.getD p undef=zP g) (hq:tmps.getD q undef=v) (c:AX w g t cs) (k:P.underlying ty=some d) (e:d.isRow=true) (f:(P.info? ty).map (·.size)=some cs.size) :
  (results a tmps).run P w= .ok (.tuple #[.agg cs,v]) w:=by
 have i:tmps[p]?.getD undef=zP g:=by simpa using h
 have j:tmps[q]?.getD undef=v:=by simpa using hq
 simp[results,b,i,j,asAddr,IR c k e f]
end

def i64 (n:Int):Prop:=-9223372036854775808<=n/\n<=9223372036854775807
def Ey (a:Int):Prop:=0<=a/\a<=65535
def I5 (s:BB):Bool:=decide (s.size%2=1)
def Cc (s:BB):Int:=(s.size:Int)/2
def Jl (s:BB) (i n:Int):Bool:=decide (0<=i/\0<=n/\i<=Cc s/\n<=Cc s-i)
theorem F5 (s:BB) (w:Bc) (a:s.size<=maxLen) :
  Calls Tryz.prog 133 #[.string s] w (Rt (zI (Cc s)) fun w'=>w=w'):=by
 unfold maxLen at a;go_in;go_wp2;go_ret;exact⟨rfl,rfl⟩
theorem OU (s:BB) (w:Bc) (b:s.size<=maxLen) :
  Calls Tryz.prog 132 #[.string s] w (Rt (.bool (I5 s)) fun w'=>w=w'):=by
 unfold maxLen at b;have a:Hid (I5 s=((s.size:Int)%2!=0)):=by
  show I5 s=_;unfold I5;rw[Bool.eq_iff_iff];simp;omega
 go_in;go_wp2;go_ret;exact⟨by rw[a.out];rfl,rfl⟩
theorem Sb {s:BB} (a:s.size<=maxLen):0<=Cc s/\Cc s<=4611686018427387903:=by
 unfold maxLen at a;unfold Cc;omega
theorem WA (s:BB) (i n:Int) (w:Bc) (e:s.size<=maxLen) (t:i64 i) (u:i64 n) :
  Calls Tryz.prog 261 #[.string s,zI i,zI n] w (Rt (.bool (Jl s i n)) fun w'=>w=w'):=by
 have c:=F5 s w e;obtain⟨l,m⟩:=Sb e;have a:Hid (Jl s i n=decide (0<=i/\0<=n/\i<=Cc s/\n<=Cc s-i)):=Lh rfl;generalize Cc s=b at c l m a;obtain⟨v,x⟩:=t;obtain⟨y,z⟩:=u;have f:=Lh c;clear c e;go_in;by_cases d:0<=i
 ·by_cases h:0<=n
  ·have g:decide (0<=i)=true:=by simpa using d
   have o:decide (0<=n)=true:=by simpa using h
   go_wp2_with fail;refine f.out.mono ?_;rintro r w' ⟨rfl,rfl⟩;by_cases j:i<=b
   ·have p:decide (i<=b)=true:=by simpa using j
    go_wp2_with fail;refine f.out.mono ?_;rintro r w' ⟨rfl,rfl⟩;by_cases k:n<=b-i
    ·have q:decide (n<=b-i)=true:=by simpa using k
     go_wp2;go_ret;exact⟨by rw[a.out,BH (by omega)];rfl,rfl⟩
    ·have q:decide (n<=b-i)=false:=by simpa using k
     go_wp2;go_ret;exact⟨by rw[a.out,BC (by omega)];rfl,rfl⟩
   ·have p:decide (i<=b)=false:=by simpa using j
    go_wp2;go_ret;exact⟨by rw[a.out,BC (by omega)];rfl,rfl⟩
  ·have g:decide (0<=i)=true:=by simpa using d
   have o:decide (0<=n)=false:=by simpa using h
   go_wp2;go_ret;exact⟨by rw[a.out,BC (by omega)];rfl,rfl⟩
 ·have g:decide (0<=i)=false:=by simpa using d
  go_wp2;go_ret;exact⟨by rw[a.out,BC (by omega)];rfl,rfl⟩
def Ec (a b:BB):Bool:=if a.size=b.size then Op.bytesLess a.toList b.toList else decide (a.size<b.size)
theorem PT (a b:BB) (w:Bc) :
  Calls Tryz.prog 165 #[.string a,.string b] w (Rt (.bool (Ec a b)) fun w'=>w=w'):=by
 go_in;by_cases c:a.size=b.size
 ·have e:((a.size:Int)!=(b.size:Int))=false:=by simp[c]
  have d:Hid (Ec a b=Op.bytesLess a.toList b.toList):=by show Ec a b=_;unfold Ec;rw[AQ c]
  clear c;go_wp2;go_ret;exact⟨by rw[d.out];rfl,rfl⟩
 ·have e:((a.size:Int)!=(b.size:Int))=true:=by simp;omega
  have d:Hid (Ec a b=decide (a.size<b.size)):=by show Ec a b=_;unfold Ec;rw[Bg c]
  clear c;go_wp2;go_ret;exact⟨by rw[d.out];rfl,rfl⟩

theorem wraps_u16 (n:Int) (a : 0<=n) (b : n<2 ^ 16):IntKind.u16.wrap n=n:=by
 rw[show IntKind.u16.wrap n=n%65536 by simp[IntKind.wrap,IntKind.bits,IntKind.signed]];omega
theorem u16_or8 {a b:Int} (d:0<=a) (e:a<=255) (c:0<=b) (f:b<=255):bits .or .u16 (a*256) b=a*256+b :=
 bits_join .u16 16 (by decide) wraps_u16 8 (a*256) b (by omega) (by omega) (by omega) c (by omega) (by omega)
def EB (s:BB) (i:Nat):Int:=((s.data.toList.getD i 0).toNat:Int)
theorem JD {s:BB} {i:Nat} (a:i<s.size):EB s i=(s[i].toNat:Int):=by
 unfold EB;rw[CK,Ah (by simpa using a)];rfl
theorem LQ (s:BB) (i:Nat):0<=EB s i/\EB s i<=255:=by
 unfold EB;have:=(s.data.toList.getD i 0).toNat_lt;omega
def G6 (s:BB) (i:Int):Int:=if 0<=i/\i<Cc s then EB s (2*i).toNat*256+EB s (2*i+1).toNat else 0
theorem Ms (s:BB) (i:Int) (w:Bc) (h:s.size<=maxLen) (v:i64 i) :
  Calls Tryz.prog 134 #[.string s,zI i] w (Rt (zU (G6 s i)) fun w'=>∃ n,w'=w.drewN n):=by
 have c:=F5 s w h;obtain⟨C,D⟩:=v;obtain⟨r,t⟩:=Sb h;have g:Cc s=(s.size:Int)/2:=rfl;go_in;by_cases f:0<=i
 ·by_cases p:i<Cc s
  ·have b:Hid (G6 s i=EB s (2*i).toNat*256+EB s (2*i+1).toNat):=by show G6 s i=_;unfold G6;rw[AQ ⟨f,p⟩]
   have o:decide (i<0)=false:=by simpa using f
   have e:decide (Cc s<=i)=false:=by simp;omega
   have B:2*i+1<(s.size:Int):=by omega
   unfold maxLen at h;have x:∀ a,(Instr.index 27 (.string s) (zI (2*i))).run Tryz.prog a= .ok (.int .u8 (EB s (2*i).toNat)) a:=fun a=>by
    rw[run_index_string a _ _ _ _ Tryz.underlying27,dif_pos ⟨by omega,by omega⟩,JD]
   have y:∀ a,(Instr.index 27 (.string s) (zI (2*i+1))).run Tryz.prog a= .ok (.int .u8 (EB s (2*i+1).toNat)) a:=fun a=>by
    rw[run_index_string a _ _ _ _ Tryz.underlying27,dif_pos ⟨by omega,by omega⟩,JD]
   obtain⟨j,k⟩:=LQ s (2*i).toNat;obtain⟨l,m⟩:=LQ s (2*i+1).toNat;generalize EB s (2*i).toNat=z at x j k b;generalize EB s (2*i+1).toNat=A at y l m b;generalize Cc s=q at c e r t p;have d:=Lh c;have E:IntKind.i64.wrap (2*i)=2*i:=by rw[IntKind.wrap_i64];omega
   have F:=u16_or8 j k l m;clear c g;go_wp2_with fail;refine d.out.mono ?_;rintro u w' ⟨rfl,rfl⟩;go_wp2_with fail;go_quiet (fail);go_wp2;go_ret;exact⟨by rw[b.out];rfl,nq,rfl⟩
  ·have b:Hid (G6 s i=0):=by show G6 s i=_;unfold G6;rw[Bg (by omega)]
   have o:decide (i<0)=false:=by simpa using f
   have e:decide (Cc s<=i)=true:=by simp;omega
   have d:=Lh c;generalize Cc s=q at d e;clear c g;go_wp2_with fail;refine d.out.mono ?_;rintro u w' ⟨rfl,rfl⟩;go_wp2;go_ret;exact⟨by rw[b.out];rfl,0,rfl⟩
 ·have b:Hid (G6 s i=0):=by show G6 s i=_;unfold G6;rw[Bg (by omega)]
  have o:decide (i<0)=true:=by simp;omega
  clear c g;go_wp2;go_ret;exact⟨by rw[b.out];rfl,0,rfl⟩

def pairs:List UInt8->List Int
 |a::b::t=>((a.toNat:Int)*256+(b.toNat:Int))::pairs t
 |_=>[]
def Xk:List Int->List UInt8
 |[]=>[]
 |x::t=>UInt8.ofNat (x/256).toNat::UInt8.ofNat (x%256).toNat::Xk t
def AU (s:BB):List Int:=pairs s.data.toList
def C8 (l:List Int):BB:=⟨(Xk l).toArray⟩
theorem Nu:∀ l:List UInt8,(pairs l).length=l.length/2
 |[]=>rfl
 |[_]=>by simp[pairs]
 |_::_::t=>by simp only[pairs,BF,Nu t];omega
theorem Q3:∀ l:List Int,(Xk l).length=2*l.length
 |[]=>rfl
 |_::t=>by simp only[Xk,BF,Q3 t];omega
theorem Rv:∀ (l:List UInt8) (i:Nat),i<l.length/2->(pairs l)[i]?= some (((l.getD (2*i) 0).toNat:Int)*256+((l.getD (2*i+1) 0).toNat:Int))
 |[],i,a=>by simp at a
 |[_],i,a=>by simp at a
 |c::b::t,0,a=>rfl
 |c::b::t,i+1,a=>by
  have:=Rv t i (by simp only[BF] at a;omega);rw[show 2*(i+1)=2*i+1+1 by omega,show 2*i+1+1+1=(2*i+1)+1+1 by omega];simpa [pairs] using this
theorem Nt:∀ (a b:List UInt8),a.length%2=0->pairs (a++b)=pairs a++pairs b
 |[],b,_=>rfl
 |[_],b,c=>by simp at c
 |x::y::t,b,c=>by
  have:=Nt t b (by simp only[BF] at c;omega);simp only[Df,pairs,this]
theorem Q0:∀ (a b:List Int),Xk (a++b)=Xk a++Xk b
 |[],b=>rfl
 |x::t,b=>by simp only[Df,Xk,Q0 t b]
theorem Rw:∀ (l:List UInt8),∀ x∈pairs l,Ey x
 |[],x,a=>by simp[pairs] at a
 |[_],x,a=>by simp[pairs] at a
 |c::b::t,x,a=>by
  simp only[pairs,BI] at a;rcases a with rfl|a
  ·have:=c.toNat_lt;have:=b.toNat_lt;unfold Ey;omega
  ·exact Rw t x a
theorem Rx:∀ (l:List Int),(∀ x∈l,Ey x)->pairs (Xk l)=l
 |[],_=>rfl
 |x::t,a=>by
  have b:=a x (List.mem_cons_self ..);have c:=Rx t fun e d=>a e (Dn _ d)
  unfold Ey at b;simp only[Xk,pairs,c,UInt8.toNat_ofNat']
  congr 1
  omega
theorem R8:∀ (l:List UInt8),l.length%2=0->Xk (pairs l)=l
 |[],_=>rfl
 |[_],c=>by simp at c
 |a::b::t,c=>by
  have d:=R8 t (by simp only[BF] at c;omega);have:=a.toNat_lt;have:=b.toNat_lt;simp only[pairs,Xk,d];rw[show(((a.toNat:Int)*256+(b.toNat:Int))/256).toNat=a.toNat by omega,show(((a.toNat:Int)*256+(b.toNat:Int))%256).toNat=b.toNat by omega];simp
theorem Qi:∀ (l:List UInt8) (n:Nat),pairs (l.take (2*n))=(pairs l).take n
 |l,0=>by simp[pairs]
 |[],n+1=>by simp[pairs]
 |[a],n+1=>by rw[show 2*(n+1)=2*n+1+1 by omega];simp[pairs]
 |a::b::t,n+1=>by
  rw[show 2*(n+1)=2*n+1+1 by omega];simp only[Gb,pairs,Qi t n]
theorem Qh:∀ (l:List UInt8) (n:Nat),pairs (l.drop (2*n))=(pairs l).drop n
 |l,0=>by simp
 |[],n+1=>by simp[pairs]
 |[a],n+1=>by rw[show 2*(n+1)=2*n+1+1 by omega];simp[pairs]
 |a::b::t,n+1=>by
  rw[show 2*(n+1)=2*n+1+1 by omega];simp only[List.drop_succ_cons,pairs,Qh t n]
theorem GG (s:BB):s.data.toList.length=s.size:=rfl
theorem BG (s:BB):(AU s).length=s.size/2:=by unfold AU;rw[Nu,GG]
theorem QL (s:BB):∀ x∈AU s,Ey x:=Rw _
theorem Pp {l:List Int} (a:∀ x∈l,Ey x):AU (C8 l)=l:=by unfold AU C8;exact Rx l a
theorem Js {s:BB} (a:s.size%2=0):C8 (AU s)=s:=by
 unfold AU C8;rw[R8 _ a]
theorem FD (l:List Int):(C8 l).size=2*l.length:=Q3 l
theorem QK {s:BB} {i:Nat} (a:i<s.size/2):(AU s)[i]?= some (EB s (2*i)*256+EB s (2*i+1)):=Rv _ i a
theorem at_eq (s:BB) (i:Int):G6 s i=if 0<=i then(AU s).getD i.toNat 0 else 0:=by
 unfold G6 Cc;by_cases a:0<=i
 ·rw[AQ a];by_cases b:i<(s.size:Int)/2
  ·rw[AQ ⟨a,b⟩,CK,QK (by omega),Option.getD_some,show(2*i).toNat=2*i.toNat by omega,show(2*i+1).toNat=2*i.toNat+1 by omega]
  ·rw[Bg (by omega),CK,En (by rw[BG];omega),Option.getD_none]
 ·rw[Bg a,Bg (by omega)]
theorem GM {s:BB} {i:Nat} (a:i<(AU s).length):G6 s i=(AU s)[i]:=by
 rw[at_eq,AQ (by omega),CK,show(i:Int).toNat=i by omega,Ah a,Option.getD_some]
theorem Kt {a b:BB} (c:a.data.toList=b.data.toList):a=b:=ByteArray.ext (Array.toList_inj.mp c)
theorem IK (s:BB) (i j:Nat):(s.extract i j).data.toList=(s.data.toList.take j).drop i:=by
 rw[ByteArray.data_extract,Array.toList_extract,List.extract_eq_take_drop];rw[List.drop_take]
theorem Lp (a b:BB):(a++b).data.toList=a.data.toList++b.data.toList:=by
 rw[ByteArray.data_append,Array.toList_append]
theorem MU {a:BB} (b:BB) (c:a.size%2=0):AU (a++b)=AU a++AU b:=by
 unfold AU;rw[Lp,Nt _ _ c]
theorem of_append (a b:List Int):C8 (a++b)=C8 a++C8 b:=by
 apply Kt;rw[Lp];simp[C8,Q0]
theorem Ji (s:BB) (i j:Nat):AU (s.extract (2*i) (2*j))=((AU s).take j).drop i:=by
 unfold AU;rw[IK,Qh,Qi]

def Lj:List Int->List Int
 |[]=>[]
 |x::t=>x/256::x%256::Lj t
theorem OC:∀ (a b:List Int),Lj (a++b)=Lj a++Lj b
 |[],b=>rfl
 |x::t,b=>by simp only[Df,Lj,OC t b]
theorem OD:∀ l:List Int,(Lj l).length=2*l.length
 |[]=>rfl
 |_::t=>by simp only[Lj,BF,OD t];omega
theorem R7 {l:List Int} {j:Nat} (a:j<l.length):Lj (l.take (j+1))=Lj (l.take j)++[l[j] / 256,l[j] % 256]:=by
 rw[AP a,OC];rfl
theorem UQ:∀ l:List Int,Xk l=(Lj l).map fun n=>UInt8.ofNat n.toNat
 |[]=>rfl
 |x::t=>by simp only[Xk,Lj,Dm,UQ t]
theorem Ob (a:List Int):∀ (r:BB),a.foldl (fun r n=>r.push (UInt8.ofNat n.toNat)) r=⟨r.data++(a.map fun n=>UInt8.ofNat n.toNat).toArray⟩:=by
 induction a with
 |nil=>intro r;simp
 |cons n a b =>
  intro r;rw[List.foldl_cons,b];simp[ByteArray.push]
theorem iU (l:List Int):(Lj l).foldl (fun r n=>r.push (UInt8.ofNat n.toNat)) ByteArray.empty=C8 l:=by
 rw[Ob];unfold C8;rw[UQ];simp[ByteArray.empty,ByteArray.emptyWithCapacity];rfl
def qZ (n:Int):Value:=.int .u8 n
def JC (n:Int):Value:=zU n
theorem Ny {w:Bc} {base:Nat} {A:Option Addr} {c n:Nat} {l:List Int} (d:w.ownsRow base 5 1 (.slice A n c) n ((Lj l).map qZ)) :
  (convert 84 27 (.slice A n c)).run Tryz.prog w= .ok (.string (C8 l)) w:=by
 rw[run_convert_bytes_string _ 84 27 5 _ _ _ Tryz.underlying84 Tryz.underlying5 Tryz.underlying27];have f:(Lj l).length=n:=by simpa using d.1
 rcases d.2 with⟨a,i⟩|⟨g,p,q,a,_⟩
 ·injection a with e _ b;subst e b;subst i;have m:l=[]:=by
   rw[OD] at f;exact EI.1 (by omega)
  subst m;rfl
 ·injection a with e _ b;subst e;rw[<- iU];refine run_bytesToString _ (zA g 0) n c (Lj l) ?_;have h:=run_loadCells_list (P:=Tryz.prog) w (zA g 0) ((Lj l).map (Value.int .u8)) (by
   intro o s a;have k:o<n:=by
    have:=(AC.1 a).1;simpa [f] using this
   obtain⟨r,j,_,b⟩:=KX d k;cases j;have:=b 0 (by omega);simp only[Fy,F7] at this;simp only[Addr.add_lit,Bz];rw[this];exact a)
  rw[Be,f] at h;exact h
theorem KR:(Tryz.prog.info? 5).map (fun i=>(i.zero,i.size,i.bytes))=some (some (.int .u8 0),1,1):=by kernel_rfl
theorem mM (A:Option Addr) (c:Nat) (l:List Int) (w:Bc) (S:l.length<=1000000) (o:Ay JC w w.heap.size 1 A l) (q:∀ x∈l,Ey x) :
  Calls Tryz.prog 91 #[.slice A l.length c] w (Rt (.string (C8 l)) (Au w)):=by
 obtain⟨y,n,s,u,v⟩:=info_parts KR;go_in;have B:=Lh o;have C:=Lh q;clear o q;go_wp2_with (at_make;refine wpList_make_own _ rfl _ _ 84 rfl w.heap.size 5 y (.int .u8 0) 1 Tryz.underlying84 n s u .i64 .i64 _ (2*l.length) rfl rfl (by omega) (by rw[v];omega) (by unfold maxLen;omega) (AY _) ?_;intro J i m);have k:Au w J:=(Aa _ w).grown m fun _ e=>by cases e
 clear m;go_loopg [3,12] l.length fun gk I H wr=>∃ a:Nat,a+gk=l.length/\H=zI a/\wr.ownsRow w.heap.size 5 1 I (2*a) ((Lj (l.take a)).map qZ)/\Au w wr
 case atStart=>exact⟨0,Bz _,rfl,i,k⟩
 case round =>
  clear i k;obtain⟨a,Q,rfl,b,d⟩:=hrel;by_cases g:a<l.length
  ·obtain⟨j,z,rfl,E,f⟩:=Ay.BV (fun _=>rfl) B.out g;have hx:=C.out _ (Br g);obtain⟨x,r⟩:∃ x,x=l[a]:=⟨_,rfl⟩
   have h:=Lh (R7 g);rw[<- r] at f hx h;obtain⟨Z,aa⟩:=hx;have M:Cl wr j (z+a) (zU x):=(d.cell (p:=zA j (z+a)) E id).trans f;have W:(a:Int)<(l.length:Int):=by omega
   have V:=d.size;clear f r;go_wp2_with (at_builtin;refine wpList_append_lies _ (by rfl) _ _ _ (by rfl) w.heap.size 5 y _ 1 1 Tryz.underlying84 n s u v rfl (by omega) u3 _ _ (by rfl) (b.alloc _) (zA wr.heap.size 0) 2 2 [.int .u8 (x/256),.int .u8 (x%256)] (by rfl) (by rfl) (World.news_of_block (cs:=#[.int .u8 (x/256),.int .u8 (x%256)]) (t:=5) (fr:=(0,0)) (heap_alloc_new wr _)) (by simp[Value.oneCell']) (by omega) (by unfold maxLen;omega) (by omega) (by simp;omega) (wr.heap.size+1) (by simp) ?_;intro O N Y D F P T);go_roundg (gk-1)
   case measure=>omega
   case rel =>
    refine⟨a+1,by omega,by go_num,?_,?_⟩
    ·rw[h.out,Bw];exact D
    ·exact((d.alloc _).grown F fun X e R=>Bv (BQ b e) (by omega))
  ·have G:a=l.length:=by omega
   subst G;rw[Cr] at b;obtain⟨K,L,rfl⟩:=BD b;have U:=Ny b;go_wp2;go_ret;exact⟨rfl,d⟩
theorem wrap_u8 (n:Int) (a : 0<=n) (b : n<2 ^ 8):IntKind.u8.wrap n=n:=by
 rw[show IntKind.u8.wrap n=n%256 by simp[IntKind.wrap,IntKind.bits,IntKind.signed]];omega
theorem IG (w:Bc) (base e size:Nat) (a:base<=w.heap.size):(w.alloc (.cells #[] e)).ownsRow base e size (zS w.heap.size 0 0 0) 0 [] :=
 ⟨by simp,.inr ⟨w.heap.size,0,#[],rfl,a,heap_alloc_new w _,AY _,by simp[maxLen],by simp,by simp⟩⟩
theorem Xf (A:Option Addr) (c:Nat) (l:List Int) (w:Bc) (V:l.length<=1000000) (m:Ay JC w w.heap.size 1 A l) (n:∀ x∈l,Ey x) :
  Calls Tryz.prog 7 #[.slice A l.length c] w (Rt (.string (C8 l)) (Au w)):=by
 obtain⟨M,G,I,J,K⟩:=info_parts KR;have z:=Lh m;have B:=Lh n;have ae:=IG w w.heap.size 5 1 (AY _);clear m n;go_in;go_wp2;go_loopg [3,4] l.length fun gk N L wr=>∃ a:Nat,a+gk=l.length/\L=zI a/\wr.ownsRow w.heap.size 5 1 N (2*a) ((Lj (l.take a)).map qZ)/\Au w wr
 case atStart=>exact⟨0,Bz _,rfl,ae,(Aa _ _).alloc _⟩
 case round =>
  obtain⟨a,T,rfl,b,d⟩:=hrel;clear ae;by_cases g:a<l.length
  ·obtain⟨e,v,rfl,E,f⟩:=Ay.BV (fun _=>rfl) z.out g;have hx:=B.out _ (Br g);obtain⟨x,o⟩:∃ x,x=l[a]:=⟨_,rfl⟩
   have i:=Lh (R7 g);rw[<- o] at f hx i;obtain⟨y,ad⟩:=hx;have O:Cl wr e (v+a) (zU x):=(d.cell (p:=zA e (v+a)) E id).trans f;have Z:(a:Int)<(l.length:Int):=by omega
   have aa:(0:Int)<=(a:Int):=by omega
   have Y:=d.size;have S:e<wr.heap.size:=by omega
   obtain⟨h,j,rfl⟩:=BD b;have q:IntKind.u16.wrap (x.tdiv 256)=x/256:=by rw[Dk y];exact wraps_u16 _ (by omega) (by omega)
   have s:IntKind.u8.wrap (x/256)=x/256:=by rw[wrap_u8 _ (by omega) (by omega)]
   have u:IntKind.u8.wrap (x.tmod 256)=x%256:=by rw[DY y,wrap_u8 _ (by omega) (by omega)]
   have r:x/256%256=x/256:=by omega
   clear f o;go_wp2_with fail;go_region_law (refine step_append_lies _ (by rfl) _ _ _ (by rfl) w.heap.size 5 M _ 1 1 Tryz.underlying84 G I J K rfl (by omega) (.slice h (2*a) j) _ _ (by rfl) ((b.alloc _).drew) (zA wr.heap.size 0) 2 2 [.int .u8 (x/256),.int .u8 (x%256)] (by rfl) (by rfl) (World.news_of_block (cs:=#[.int .u8 (x/256),.int .u8 (x%256)]) (t:=5) (fr:=(0,0)) (heap_alloc_new wr _)) (by simp[Value.oneCell']) (by omega) (by unfold maxLen;omega) (by omega) (by simp;omega) (wr.heap.size+1) (by simp) ?_;intro Q P ac C F R W)
   all_goals
    go_wp2;go_roundg (gk-1)
    case measure=>clear q r s u;omega
    case rel =>
     clear q r s u;refine⟨a+1,by omega,by go_num,?_,?_⟩
     ·rw[i.out,Bw];exact C
     ·exact((d.alloc _).drew.grown F fun k D U=>Bv (BQ b D) (by omega))
  ·have H:a=l.length:=by omega
   subst H;rw[Cr] at b;obtain⟨h,j,rfl⟩:=BD b;have X:=Ny b;go_wp2;go_ret;exact⟨rfl,d⟩

theorem Ra:(Tryz.prog.info? 25).map (fun i=>(i.zero,i.size,i.bytes))=some (some (zU 0),1,2):=by kernel_rfl
theorem Vs {s:BB} {j:Nat} (a:j<(AU s).length):(AU s).take (j+1)=(AU s).take j++[EB s (2*j)*256+EB s (2*j+1)]:=by
 rw[AP a];have:=QK (s:=s) (i:=j) (by rw[<- BG];exact a);rw[Ah a] at this;injection this with this;rw[this]
theorem G7 (s:BB) (w:Bc) (aa:s.size<=1000000) :
  Calls Tryz.prog 41 #[.string s] w fun e w'=>∃ v,e= .returned v/\w'.ownsRow w.heap.size 25 1 v (AU s).length ((AU s).map JC)/\Au w w':=by
 obtain⟨O,G,K,L,M⟩:=info_parts Ra;have J:=BG s;have ae:=IG w w.heap.size 25 1 (AY _);have u:=Lh fun a (g:a<(AU s).length)=>Vs (s:=s) (j:=a) g
 have r:Hid ((AU s).take (AU s).length=AU s):=Lh (Cr);have R:=Lh fun a (g:a<=(AU s).length)=>(List.length_take_of_le g)
 generalize E:(AU s).length=d at *;have U:2*d<=s.size:=by omega
 have V:s.size<=2*d+1:=by omega
 clear J E;go_in;go_wp2;go_loopg [3,4] d fun gk v N wr=>∃ a:Nat,a+gk=d/\N=zI (2*(a:Int))/\wr.ownsRow w.heap.size 25 1 v a (((AU s).take a).map JC)/\Au w wr
 case atStart=>exact⟨0,Bz _,rfl,ae,(Aa _ _).alloc _⟩
 case round =>
  obtain⟨a,X,rfl,h,j⟩:=hrel;clear ae;by_cases I:a<d
  ·have i:=Lh (u.out a I);have P:∀ b,(Instr.index 27 (.string s) (zI (2*(a:Int)))).run Tryz.prog b= .ok (.int .u8 (EB s (2*a))) b:=fun b=>by
    rw[run_index_string b _ _ _ _ Tryz.underlying27,dif_pos ⟨by omega,by omega⟩,<- JD (by omega)]
    congr 2
   have Q:∀ b,(Instr.index 27 (.string s) (zI ((2*(a:Int))+1))).run Tryz.prog b= .ok (.int .u8 (EB s (2*a+1))) b:=fun b=>by
    rw[run_index_string b _ _ _ _ Tryz.underlying27,dif_pos ⟨by omega,by omega⟩,<- JD (by omega)]
    congr 2
   obtain⟨y,z⟩:=LQ s (2*a);obtain⟨A,B⟩:=LQ s (2*a+1);have ab:=j.size;generalize EB s (2*a)=c at P y z i;generalize EB s (2*a+1)=f at Q A B i;obtain⟨q,C,rfl⟩:=BD h;have D:((2*(a:Int))+1)<(s.size:Int):=by omega
   have l:IntKind.u16.wrap (c*256)=c*256:=wraps_u16 _ (by omega) (by omega);have m:IntKind.u16.wrap (c*256+f)=c*256+f:=wraps_u16 _ (by omega) (by omega);have o:IntKind.u16.wrap c=c:=wraps_u16 _ (by omega) (by omega);have p:IntKind.u16.wrap f=f:=wraps_u16 _ (by omega) (by omega);have n:IntKind.i64.wrap ((2*(a:Int))+1)=(2*(a:Int))+1:=by rw[IntKind.wrap_i64];omega
   go_wp2_with fail;go_region_law (refine step_append_lies _ (by rfl) _ _ _ (by rfl) w.heap.size 25 O _ 1 2 Tryz.underlying78 G K L M rfl (by omega) (.slice q a C) _ _ (by rfl) ((h.alloc _).drew) (zA wr.heap.size 0) 1 1 [zU (c*256+f)] (by rfl) (by rfl) (World.news_of_block (cs:=#[zU (c*256+f)]) (t:=25) (fr:=(0,0)) (heap_alloc_new wr _)) (by simp[Value.oneCell']) (by omega) (by unfold maxLen;omega) (by omega) (by simp;omega) (wr.heap.size+1) (by simp) ?_;intro T S ad x F W Z)
   all_goals
    go_wp2;go_roundg (gk-1)
    case measure=>clear l m n o p;omega
    case rel =>
     clear l m n o p;refine⟨a+1,by omega,by go_num,?_,?_⟩
     ·rw[i.out,Bw];exact x
     ·exact((j.alloc _).drew.grown F fun k g Y=>Bv (BQ h g) (by omega))
  ·have H:a=d:=by omega
   subst H;rw[r.out] at h;have D:¬((2*(a:Int))+1)<(s.size:Int):=by omega
   go_wp2;go_ret;exact⟨_,rfl,h,j⟩
theorem S9 {d : Type} {xs a:List d} {j:Nat} (hx:j<xs.length) (c:j<a.length) (b:xs.take j=a.take j) (e:xs[j]=a[j]):xs.take (j+1)=a.take (j+1):=by
 rw[AP hx,AP c,b,e]

def EX (l:List Int):Bool:=l.all fun a=>a != 0
def CX (s:BB):Bool:=!I5 s&&(decide (1<=Cc s)&&(decide (Cc s<=8)&&EX (AU s)))
theorem Ow {l:List Int} {j:Nat} (a:j<l.length) (b:EX (l.take j)=true) (c:l[j]≠0):EX (l.take (j+1))=true:=by
 unfold EX at *;rw[AP a,List.all_append,b];simpa using c
theorem Np {l:List Int} {j:Nat} (a:j<l.length) (b:l[j]=0):EX l=false:=by
 unfold EX;rw[Fh];intro c;have:=(FY.1 c) _ (Br a);simp[b] at this
theorem Jk (s:BB) (w:Bc) (G:s.size<=1000000) :
  Calls Tryz.prog 103 #[.string s] w (Rt (.bool (CX s)) fun w'=>∃ n,w'=w.drewN n):=by
 have p:s.size<=maxLen:=by unfold maxLen;omega
 have f:=Lh (OU s w p);have d:=Lh (F5 s w p);have A:=BG s;have l:Cc s=((AU s).length:Int):=by unfold Cc;omega
 have c:Hid (CX s=(!I5 s&&(decide (1<=((AU s).length:Int))&&(decide (((AU s).length:Int)<=8)&&EX (AU s))))):=by
  show CX s=_;unfold CX;rw[l]
 rw[l] at d;clear l A;rcases g:I5 s with _|_
 ·rw[g] at f c;by_cases C:1<=(AU s).length
  ·have t:decide (((AU s).length:Int)<1)=false:=by simp;omega
   by_cases D:(AU s).length<=8
   ·have u:decide (8<((AU s).length:Int))=false:=by simp;omega
    have e:Hid (CX s=EX (AU s)):=by
     show CX s=_;rw[c.out,BH (by omega),BH (by omega)];rfl
    clear g c;go_in;go_wp2_with fail;refine f.out.mono ?_;rintro a w' ⟨rfl,rfl⟩;go_wp2_with fail;refine d.out.mono ?_;rintro a w' ⟨rfl,rfl⟩;go_wp2_with fail;refine d.out.mono ?_;rintro a w' ⟨rfl,rfl⟩;go_wp2_with fail;refine d.out.mono ?_;rintro a w' ⟨rfl,rfl⟩;clear f d t u;go_wp2;go_loopg [18] (AU s).length fun gk y wr=>∃ b:Nat,b+gk=(AU s).length/\y=zI b/\EX ((AU s).take b)=true/\∃ n,wr=w.drewN n
    case atStart=>exact⟨0,Bz _,rfl,rfl,0,rfl⟩
    case round =>
     obtain⟨b,E,rfl,x,n,rfl⟩:=hrel;have r:=Lh x;clear x;by_cases o:b<(AU s).length
     ·have k:=Lh (Ms s b (w.drewN n) p ⟨by omega,by omega⟩);have m:=Lh (GM (s:=s) (i:=b) o);obtain⟨j,hx⟩:∃ j,j=G6 s b:=⟨_,rfl⟩
      rw[<- hx] at k m;have B:=Lh hx;clear hx;by_cases h:j=0
      ·have z:(j==0)=true:=by simpa using h
       have i:Hid (EX (AU s)=false):=Np o (by rw[<- m.out,h]);clear h;go_wp2_with fail;refine k.out.mono ?_;rintro a w' ⟨rfl,q,rfl⟩;go_wp2;go_ret;exact⟨by rw[e.out,i.out];rfl,n+q,rfl⟩
      ·have z:(j==0)=false:=by simpa using h
       have i:=Lh (Ow o r.out (by rw[<- m.out];exact h));clear h;go_wp2_with fail;refine k.out.mono ?_;rintro a w' ⟨rfl,q,rfl⟩;go_wp2;go_roundg (gk-1)
       case measure=>omega
       case rel=>exact⟨b+1,by omega,by go_num,i.out,n+q,rfl⟩
     ·have v:b=(AU s).length:=by omega
      have i:Hid (EX (AU s)=true):=by
       show EX (AU s)=true;have:=r.out
       rwa [v,Cr] at this
      have F:¬(b:Int)<((AU s).length:Int):=by omega
      clear v;go_wp2;go_ret;exact⟨by rw[e.out,i.out];rfl,n,rfl⟩
   ·have u:decide (8<((AU s).length:Int))=true:=by simp;omega
    have e:Hid (CX s=false):=by
     show CX s=_;rw[c.out,BH (by omega),BC (by omega)];rfl
    clear g c;go_in;go_wp2_with fail;refine f.out.mono ?_;rintro a w' ⟨rfl,rfl⟩;go_wp2_with fail;refine d.out.mono ?_;rintro a w' ⟨rfl,rfl⟩;go_wp2_with fail;refine d.out.mono ?_;rintro a w' ⟨rfl,rfl⟩;go_wp2;go_ret;exact⟨by rw[e.out];rfl,0,rfl⟩
  ·have t:decide (((AU s).length:Int)<1)=true:=by simp;omega
   have e:Hid (CX s=false):=by
    show CX s=_;rw[c.out,BC (by omega)];rfl
   clear g c;go_in;go_wp2_with fail;refine f.out.mono ?_;rintro a w' ⟨rfl,rfl⟩;go_wp2_with fail;refine d.out.mono ?_;rintro a w' ⟨rfl,rfl⟩;go_wp2;go_ret;exact⟨by rw[e.out];rfl,0,rfl⟩
 ·rw[g] at f c;have e:Hid (CX s=false):=by
   show CX s=_;rw[c.out];rfl
  clear g c;go_in;go_wp2_with fail;refine f.out.mono ?_;rintro a w' ⟨rfl,rfl⟩;go_wp2;go_ret;exact⟨by rw[e.out];rfl,0,rfl⟩
theorem Qp (s:BB) (w:Bc) (A:s.size<=1000000) :
  Calls Tryz.prog 18 #[.string s] w (Rt (.bool (CX s)) (Au w)):=by
 have p:=Lh (G7 s w A);have z:=BG s;have r:Cc s=((AU s).length:Int):=by unfold Cc;omega
 have b:Hid (CX s=(!I5 s&&(decide (1<=((AU s).length:Int))&&(decide (((AU s).length:Int)<=8)&&EX (AU s))))):=by
  show CX s=_;unfold CX;rw[r]
 have c:Hid (I5 s=decide (s.size%2=1)):=Lh rfl;have J:(AU s).length<=500000:=by omega
 clear r z;go_in;go_wp2_with fail;refine p.out.mono ?_;rintro G C ⟨O,rfl,o,g⟩;obtain⟨D,F,rfl⟩:=BD o;have k:=Lh (Ay.Ea (V:=JC) (fun _=>rfl) o);clear p o;go_wp2;go_loopg [4] (AU s).length fun gk B wr=>∃ a:Nat,a+gk=(AU s).length/\B=zI a/\EX ((AU s).take a)=true/\C=wr
 case atStart=>exact⟨0,Bz _,rfl,rfl,rfl⟩
 case round =>
  obtain⟨a,K,rfl,v,rfl⟩:=hrel;have l:=Lh v;clear v;by_cases n:a<(AU s).length
  ·obtain⟨E,N,rfl,_,t⟩:=Ay.BV (fun _=>rfl) k.out n;obtain⟨h,hx⟩:∃ h,h=(AU s)[a]:=⟨_,rfl⟩
   rw[<- hx] at t;unfold JC at t;have q:=Lh hx;clear hx k;have M:(a:Int)<((AU s).length:Int):=by omega
   by_cases e:h=0
   ·have x:(h==0)=true:=by simpa using e
    have f:Hid (EX (AU s)=false):=Np n (by rw[<- q.out,e]);clear e;go_wp2;go_ret;exact⟨by rw[b.out,f.out];simp,g⟩
   ·have x:(h==0)=false:=by simpa using e
    have f:=Lh (Ow n l.out (by rw[<- q.out];exact e));clear e;go_wp2;go_roundg (gk-1)
    case measure=>omega
    case rel=>exact⟨a+1,by omega,by go_num,f.out,rfl⟩
  ·have u:a=(AU s).length:=by omega
   have f:Hid (EX (AU s)=true):=by
    show EX (AU s)=true;have:=l.out
    rwa [u,Cr] at this
   have L:¬(a:Int)<((AU s).length:Int):=by omega
   clear u l k;by_cases j:s.size%2=0
   ·have y:((s.size:Int)%2==0)=true:=by simp;omega
    by_cases H:1<=(AU s).length
    ·have i:decide (1<=((AU s).length:Int))=true:=by simp;omega
     by_cases I:(AU s).length<=8
     ·have m:decide (((AU s).length:Int)<=8)=true:=by simp;omega
      have d:Hid (CX s=true):=by
       show CX s=_;rw[b.out,c.out,i,m,f.out,BC (by omega)];rfl
      clear j b c;go_wp2;go_ret;exact⟨by rw[d.out];rfl,g⟩
     ·have m:decide (((AU s).length:Int)<=8)=false:=by simp;omega
      have d:Hid (CX s=false):=by
       show CX s=_;rw[b.out,c.out,i,m,BC (by omega)];rfl
      clear j b c;go_wp2;go_ret;exact⟨by rw[d.out];rfl,g⟩
    ·have i:decide (1<=((AU s).length:Int))=false:=by simp;omega
     have d:Hid (CX s=false):=by
      show CX s=_;rw[b.out,c.out,i,BC (by omega)];rfl
     clear j b c;go_wp2;go_ret;exact⟨by rw[d.out];rfl,g⟩
   ·have y:((s.size:Int)%2==0)=false:=by simp;omega
    have d:Hid (CX s=false):=by
     show CX s=_;rw[b.out,c.out,BH (by omega)];rfl
    clear j b c;go_wp2;go_ret;exact⟨by rw[d.out];rfl,g⟩

theorem Xa:∀ (k:Nat) (x y:List UInt8),k<x.length->k<y.length->x.take k=y.take k->x.getD k 0≠y.getD k 0->Op.bytesLess x y=decide (x.getD k 0<y.getD k 0)
 |0,e::x,b::y,_,_,_,c=>by
  simp only[List.getD_cons_zero] at c ⊢;simp[Op.bytesLess,c]
 |k+1,e::x,b::y,f,g,a,c=>by
  simp only[Gb,List.cons.injEq] at a;obtain⟨rfl,a⟩:=a;have:=Xa k x y (by simpa using f) (by simpa using g) a (by simpa using c);simp only[List.getD_cons_succ];rw[<- this];simp[Op.bytesLess]
 |_,[],_,d,_,_,_=>by simp at d
 |_,_::_,[],_,d,_,_=>by simp at d
theorem TY:∀ (x:List UInt8),Op.bytesLess x x=false
 |[]=>rfl
 |a::x=>by simp[Op.bytesLess,TY x]
theorem Xw {c b:BB} {k:Nat}:EB c k≠EB b k↔c.data.toList.getD k 0≠b.data.toList.getD k 0:=by
 unfold EB;constructor
 ·intro a d;exact a (by rw[d])
 ·intro a d;exact a (UInt8.toNat_inj.1 (by omega))
theorem aR {a b:BB} {k:Nat} (d:a.size=b.size) (hk:k<a.size) (ht:a.data.toList.take k=b.data.toList.take k) (c:EB a k≠EB b k):Ec a b=decide (EB a k<EB b k):=by
 unfold Ec;rw[AQ d,ByteArray.toList_eq,ByteArray.toList_eq,Xa k _ _ (by rw[GG];exact hk) (by rw[GG];omega) ht (Xw.1 c)];unfold EB;rw[Bool.eq_iff_iff];simp[UInt8.lt_iff_toNat_lt]
theorem YG {a b:BB} {k:Nat} (d:a.size=b.size) (hk:k<a.size) (ht:a.data.toList.take k=b.data.toList.take k) (c:EB a k=EB b k):a.data.toList.take (k+1)=b.data.toList.take (k+1):=by
 refine S9 (by rw[GG];exact hk) (by rw[GG];omega) ht ?_;have:a.data.toList.getD k 0=b.data.toList.getD k 0:=by
  refine UInt8.toNat_inj.1 ?_;unfold EB at c;omega
 rw[CK,CK,Ah (by rw[GG];exact hk),Ah (by rw[GG];omega)] at this;simpa using this
theorem M9 (a:BB):Ec a a=false:=by
 unfold Ec;rw[AQ rfl,TY]
theorem Rz (a b:BB) (w:Bc) (A:a.size<=1000000) :
  Calls Tryz.prog 42 #[.string a,.string b] w (Rt (.bool (Ec a b)) fun w'=>∃ n,w'=w.drewN n):=by
 by_cases h:a.size=b.size
 ·have q:((a.size:Int)!=(b.size:Int))=false:=by simp[h]
  have i:=Lh h;clear h;go_in;go_wp2;go_loopg [5] a.size fun gk u wr=>∃ c:Nat,c+gk=a.size/\u=zI c/\a.data.toList.take c=b.data.toList.take c/\∃ n,wr=w.drewN n
  case atStart=>exact⟨0,Bz _,rfl,rfl,0,rfl⟩
  case round =>
   obtain⟨c,y,rfl,ht,n,rfl⟩:=hrel;have k:=Lh ht;clear ht;by_cases j:c<a.size
   ·have s:c<b.size:=by rw[<- i.out];exact j
    have v:∀ e,(Instr.index 27 (.string a) (zI (c:Int))).run Tryz.prog e= .ok (.int .u8 (EB a c)) e:=fun e=>by
     rw[run_index_string e _ _ _ _ Tryz.underlying27,dif_pos ⟨by omega,by omega⟩,JD j];rfl
    have x:∀ e,(Instr.index 27 (.string b) (zI (c:Int))).run Tryz.prog e= .ok (.int .u8 (EB b c)) e:=fun e=>by
     rw[run_index_string e _ _ _ _ Tryz.underlying27,dif_pos ⟨by omega,by omega⟩,JD s];rfl
    have g:=Lh (aR i.out j k.out);have d:=Lh (YG i.out j k.out);generalize EB a c=l at v g d;generalize EB b c=m at x g d;by_cases f:l=m
    ·have r:(l != m)=false:=by simp[f]
     have o:=Lh (d.out f);clear g d f;go_wp2_with fail;go_quiet (fail);go_wp2;go_roundg (gk-1)
     case measure=>omega
     case rel=>exact⟨c+1,by omega,by go_num,o.out,_,rfl⟩
    ·have r:(l != m)=true:=by simpa using f
     have p:=Lh (g.out f);clear g d f;go_wp2_with fail;go_quiet (fail);go_wp2_with fail;go_quiet (fail);go_wp2;go_ret;refine⟨by rw[p.out];rfl,?_⟩;simp only[World.drewN_drewN];exact⟨_,rfl⟩
   ·have t:c=a.size:=by omega
    have d:Hid (Ec a b=false):=by
     have ht:=k.out;rw[Bt (by rw[GG];omega),Bt (by rw[GG];have:=i.out;omega)] at ht;rw[Kt ht];exact M9 _
    have z:¬(c:Int)<(a.size:Int):=by omega
    clear t;go_wp2;go_ret;exact⟨by rw[d.out];rfl,n,rfl⟩
 ·have q:((a.size:Int)!=(b.size:Int))=true:=by simp;omega
  have d:Hid (Ec a b=decide (a.size<b.size)):=by show Ec a b=_;unfold Ec;rw[Bg h]
  clear h;go_in;go_wp2;go_ret;exact⟨by rw[d.out];rfl,0,rfl⟩

def FI (s v:BB) (i:Nat):Bool:=decide (((AU s).drop i).take (AU v).length=AU v)
def JM (p:Nat->Bool):Nat->Nat->Int
 |_,0=>-1
 |i,n+1=>if p i then(i:Int) else JM p (i+1) n
def Xu (v:BB):Bool:=I5 v||decide (v.size=0)
def Jp (s v:BB) (i:Int):Int:=if Xu v then -1 else JM (FI s v) i.toNat ((AU s).length-i.toNat)
theorem TG {p:Nat->Bool}:∀ (n i:Nat),(∀ k,i<=k->p k=false)->JM p i n = -1
 |0,_,_=>rfl
 |n+1,i,a=>by
  rw[JM,a i (AY _)];exact TG n (i+1) fun k hk=>a k (by omega)
theorem Md {s v:BB} {i:Nat} (a:FI s v i=true):(AU v).length=0∨i+(AU v).length<=(AU s).length:=by
 have:=Bu List.length (of_decide_eq_true a);simp at this;omega
theorem MJ {s v:BB} {i:Nat} (d:0<(AU v).length) (c:(AU s).length<i+(AU v).length):FI s v i=false:=by
 rcases a:FI s v i with _|_
 ·rfl
 ·rcases Md a with b|b<;>omega
theorem Sy {s v:BB} {i:Nat} (d:v.size%2=0) (e:i+(AU v).length<=(AU s).length):((s.extract (2*i) (2*i+v.size)).toList==v.toList)=FI s v i:=by
 have g:=BG v;have f:=BG s;rw[bytes_beq];unfold FI;rw[decide_eq_decide];have c:2*i+v.size=2*(i+(AU v).length):=by omega
 rw[c];have hx:=Ji s i (i+(AU v).length);rw[List.drop_take] at hx;rw[show i+(AU v).length-i=(AU v).length by omega] at hx;constructor
 ·intro a;rw[<- hx,a]
 ·intro a;rw[a] at hx;have b:=Bu C8 hx;rw[Js d,Js (by rw[ByteArray.size_extract];omega)] at b;exact b
theorem ZV (s v:BB) (b:Int) (w:Bc) (ad:s.size<=1000000) (af:v.size<=1000000) (P:i64 b) :
  Calls Tryz.prog 296 #[.string s,.string v,zI b] w (Rt (zI (Jp s v b)) fun w'=>w=w'):=by
 have R:s.size<=maxLen:=by unfold maxLen;omega
 have L:v.size<=maxLen:=by unfold maxLen;omega
 have l:=Lh (OU v w L);have i:=Lh (F5 v w L);have o:=Lh (F5 s w R);obtain⟨X,Y⟩:=P;have z:=BG s;have A:=BG v;have r:Cc s=((AU s).length:Int):=by unfold Cc;omega
 have t:Cc v=((AU v).length:Int):=by unfold Cc;omega
 rw[t] at i;rw[r] at o;have U:(AU s).length<=500000:=by omega
 have V:(AU v).length<=500000:=by omega
 rcases f:I5 v with _|_
 ·rw[f] at l;have B:v.size%2=0:=by have:=of_decide_eq_false f;omega
  by_cases H:(AU v).length=0
  ·have g:Hid (Jp s v b = -1):=by
    show Jp s v b = -1;unfold Jp Xu;have C:v.size=0:=by omega
    rw[f,BH C];rfl
   have M:(((AU v).length:Int)==0)=true:=by rw[beq_iff_eq];omega
   clear r t z A f B H;go_in;go_wp2_with fail;refine l.out.mono ?_;rintro e w' ⟨rfl,rfl⟩;go_wp2_with fail;refine i.out.mono ?_;rintro e w' ⟨rfl,rfl⟩;go_wp2;go_ret;exact⟨by rw[g.out];rfl,rfl⟩
  ·have g:Hid (Jp s v b=JM (FI s v) b.toNat ((AU s).length-b.toNat)):=by
    show Jp s v b=_;unfold Jp Xu;have C:¬v.size=0:=by omega
    rw[f,BC C];rfl
   have M:(((AU v).length:Int)==0)=false:=by rw[Cs];omega
   have E:=Lh fun h c=>Sy (s:=s) (v:=v) (i:=h) B c
   have F:=Lh fun h c=>MJ (s:=s) (v:=v) (i:=h) (by omega) c
   have Z:1<=(AU v).length:=by omega
   have ag:2*(AU v).length<=v.size:=by omega
   have ah:v.size<=2*(AU v).length:=by omega
   have ae:2*(AU s).length<=s.size:=by omega
   clear r t z A f B H;generalize (AU s).length=d at *;generalize (AU v).length=x at *;obtain⟨n,I,J,Q⟩:∃ n:Nat,b.toNat=n/\n<=9223372036854775807/\(0<=b/\b=n∨b<0/\n=0):=⟨_,rfl,by omega,by omega⟩
   rw[I] at g;clear I;obtain⟨j,y⟩:∃ j,Jp s v b=j:=⟨_,rfl⟩
   have G:=Lh y;rw[y] at g;clear y;go_in;rcases Q with⟨S,rfl⟩|⟨S,rfl⟩
   all_goals
    go_wp2_with fail;refine l.out.mono ?_;rintro e w' ⟨rfl,rfl⟩;go_wp2_with fail;refine i.out.mono ?_;rintro e w' ⟨rfl,rfl⟩;go_wp2;go_loopg [7] (d+1) fun gk h wr=>∃ a:Nat,d+1-a<=gk/\a<=9223372036854775807/\h=zI (a:Int)/\JM (FI s v) a (d-a)=j/\w=wr
    case atStart=>exact⟨_,by omega,J,rfl,g.out.symm,rfl⟩
    case round =>
     obtain⟨a,aa,ac,rfl,hq,rfl⟩:=hrel;have q:=Lh hq;clear hq g J;by_cases K:a+x<=d
     ·have p:=Lh (E.out a K);have O:(a:Int)<=(d:Int)-(x:Int):=by omega
      have W:2*(a:Int)+(v.size:Int)<=(s.size:Int):=by omega
      obtain⟨D,u⟩:∃ D,d-a=D+1:=⟨d-a-1,by omega⟩
      rcases k:FI s v a with _|_
      ·have N:((s.extract (2*a) (2*a+v.size)).toList==v.toList)=false:=by rw[p.out,k]
       have m:Hid (JM (FI s v) (a+1) (d-(a+1))=j):=by
        have c:=q.out;rw[u,JM,k] at c;rw[show d-(a+1)=D by omega];exact c
       clear u k p;go_wp2_with fail;refine o.out.mono ?_;rintro e w' ⟨rfl,rfl⟩;go_wp2_with fail;refine i.out.mono ?_;rintro e w' ⟨rfl,rfl⟩;go_wp2;go_roundg (gk-1)
       case measure=>omega
       case rel=>exact⟨a+1,by omega,by omega,by go_num,m.out,rfl⟩
      ·have N:((s.extract (2*a) (2*a+v.size)).toList==v.toList)=true:=by rw[p.out,k]
       have m:Hid (j=(a:Int)):=by
        have c:=q.out;rw[u,JM,k] at c;exact c.symm
       clear u k p;go_wp2_with fail;refine o.out.mono ?_;rintro e w' ⟨rfl,rfl⟩;go_wp2_with fail;refine i.out.mono ?_;rintro e w' ⟨rfl,rfl⟩;go_wp2;go_ret;exact⟨by rw[G.out,m.out];rfl,rfl⟩
     ·have O:¬(a:Int)<=(d:Int)-(x:Int):=by omega
      have m:Hid (j = -1):=by
       have c:=q.out;rw[TG _ _ fun T ab=>F.out T (by omega)] at c;exact c.symm
      clear E F q K;go_wp2_with fail;refine o.out.mono ?_;rintro e w' ⟨rfl,rfl⟩;go_wp2_with fail;refine i.out.mono ?_;rintro e w' ⟨rfl,rfl⟩;go_wp2;go_ret;exact⟨by rw[G.out,m.out];rfl,rfl⟩
 ·rw[f] at l;have g:Hid (Jp s v b = -1):=by
   show Jp s v b = -1;unfold Jp Xu;rw[f];rfl
  clear r t z A f;go_in;go_wp2_with fail;refine l.out.mono ?_;rintro e w' ⟨rfl,rfl⟩;go_wp2;go_ret;exact⟨by rw[g.out];rfl,rfl⟩

theorem WZ (s:BB):0<=Cc s:=by unfold Cc;omega
def IY (s:BB) (i n:Int) (v:BB):BB × Int :=
 if I5 s||I5 v then(⟨#[]⟩,2) else if Jl s i n then(if 8<Cc s-n+Cc v then(⟨#[]⟩,4) else(s.extract 0 (2*i).toNat++v++s.extract (2*(i+n)).toNat s.size,0)) else(⟨#[]⟩,5)
theorem UL (s:BB) (i n:Int) (v:BB) (w:Bc) (P:s.size<=1000000) (Q:v.size<=1000000) (D:i64 i) (E:i64 n) :
  Calls Tryz.prog 228 #[.string s,zI i,zI n,.string v] w (Rt (.tuple #[.string (IY s i n v).1,zI (IY s i n v).2]) fun w'=>∃ k,w'=w.drewN k):=by
 have u:s.size<=maxLen:=by unfold maxLen;omega
 have A:v.size<=maxLen:=by unfold maxLen;omega
 have c:=OU s w u;have e:=OU v w A;have h:=WA s i n w u D E;have x:=Lh (F5 s w u);have y:=Lh (F5 v w A);have G:=WZ s;have H:Cc s<=500000:=by unfold Cc;omega
 have I:=WZ v;have J:Cc v<=500000:=by unfold Cc;omega
 have O:2*Cc s<=(s.size:Int):=by unfold Cc;omega
 have a:Hid (IY s i n v=if I5 s||I5 v then(⟨#[]⟩,2) else if Jl s i n then(if 8<Cc s-n+Cc v then(⟨#[]⟩,4) else(s.extract 0 (2*i).toNat++v++s.extract (2*(i+n)).toNat s.size,0)) else(⟨#[]⟩,5)):=Lh rfl;have o:Hid (Jl s i n=decide (0<=i/\0<=n/\i<=Cc s/\n<=Cc s-i)):=Lh rfl;rcases m:I5 s with _|_
 ·rw[m] at c a;rcases p:I5 v with _|_
  ·rw[p] at e a;rcases q:Jl s i n with _|_
   ·rw[q] at h a;have f:Hid (IY s i n v=(⟨#[]⟩,5)):=a.out;have j:=Lh c;have l:=Lh e;have r:=Lh h;clear c e h a m p q o;go_in;go_wp2_with fail;refine j.out.mono ?_;rintro b w' ⟨rfl,rfl⟩;go_wp2_with fail;refine l.out.mono ?_;rintro b w' ⟨rfl,rfl⟩;go_wp2_with fail;refine r.out.mono ?_;rintro b w' ⟨rfl,rfl⟩;go_wp2;go_ret2;exact⟨by rw[f.out];rfl,0,rfl⟩
   ·rw[q] at h a;have t:=o.out;rw[q] at t;obtain⟨K,L,M,N⟩:=of_decide_eq_true t.symm;have j:=Lh c;have l:=Lh e;have r:=Lh h;clear c e h m p q o t;by_cases z:8<Cc s-n+Cc v
    ·have f:Hid (IY s i n v=(⟨#[]⟩,4)):=by have d:=a.out;simp only[Bool.or_self,CJ,if_false,if_true] at d;rw[AQ z] at d;exact d
     clear a;generalize Cc s=B at *;generalize Cc v=C at *;go_in;go_wp2_with fail;refine j.out.mono ?_;rintro b w' ⟨rfl,rfl⟩;go_wp2_with fail;refine l.out.mono ?_;rintro b w' ⟨rfl,rfl⟩;go_wp2_with fail;refine r.out.mono ?_;rintro b w' ⟨rfl,rfl⟩;go_wp2_with fail;refine x.out.mono ?_;rintro b w' ⟨rfl,rfl⟩;go_wp2_with fail;refine y.out.mono ?_;rintro b w' ⟨rfl,rfl⟩;go_wp2;go_ret2;exact⟨by rw[f.out];rfl,0,rfl⟩
    ·have f:Hid (IY s i n v=(s.extract 0 (2*i).toNat++v++s.extract (2*(i+n)).toNat s.size,0)):=by have d:=a.out;simp only[Bool.or_self,CJ,if_false,if_true] at d;rw[Bg z] at d;exact d
     clear a;generalize Cc s=B at *;generalize Cc v=C at *;have X:(s.extract 0 (2*i).toNat).size<=1000000:=by rw[ByteArray.size_extract];omega
     have Y:(s.extract (2*(i+n)).toNat s.size).size<=1000000:=by rw[ByteArray.size_extract];omega
     have V:∀ g,(Instr.slice 27 (.string s) none (some (zI (2*i))) none).run Tryz.prog g= .ok (.string (s.extract 0 (2*i).toNat)) g:=fun g=>run_slice_string_h g _ _ Tryz.underlying27 _ _ (by omega) (by omega)
     have W:∀ g,(Instr.slice 27 (.string s) (some (zI (2*(i+n)))) none none).run Tryz.prog g= .ok (.string (s.extract (2*(i+n)).toNat s.size)) g:=fun g=>run_slice_string_l g _ _ Tryz.underlying27 _ _ (by omega) (by omega)
     generalize s.extract 0 (2*i).toNat=F at *;generalize s.extract (2*(i+n)).toNat s.size=U at *;have Z:(F++v).size<=2000000:=by rw[ByteArray.size_append];omega
     have R:IntKind.i64.wrap (2*i)=2*i:=by rw[IntKind.wrap_i64];omega
     have S:IntKind.i64.wrap (i+n)=i+n:=by rw[IntKind.wrap_i64];omega
     have T:IntKind.i64.wrap (2*(i+n))=2*(i+n):=by rw[IntKind.wrap_i64];omega
     go_in;go_wp2_with fail;refine j.out.mono ?_;rintro b w' ⟨rfl,rfl⟩;go_wp2_with fail;refine l.out.mono ?_;rintro b w' ⟨rfl,rfl⟩;go_wp2_with fail;refine r.out.mono ?_;rintro b w' ⟨rfl,rfl⟩;go_wp2_with fail;refine x.out.mono ?_;rintro b w' ⟨rfl,rfl⟩;go_wp2_with fail;refine y.out.mono ?_;rintro b w' ⟨rfl,rfl⟩;go_wp2_with fail;go_quiet (fail);go_wp2;go_ret2;exact⟨by rw[f.out];rfl,nq,rfl⟩
  ·rw[p] at e a;have f:Hid (IY s i n v=(⟨#[]⟩,2)):=a.out;have j:=Lh c;have l:=Lh e;clear c e h a m p o;go_in;go_wp2_with fail;refine j.out.mono ?_;rintro b w' ⟨rfl,rfl⟩;go_wp2_with fail;refine l.out.mono ?_;rintro b w' ⟨rfl,rfl⟩;go_wp2;go_ret2;exact⟨by rw[f.out];rfl,0,rfl⟩
 ·rw[m] at c a;have f:Hid (IY s i n v=(⟨#[]⟩,2)):=by have d:=a.out;rw[Bool.true_or] at d;exact d
  have j:=Lh c;clear c e h a m o;go_in;go_wp2_with fail;refine j.out.mono ?_;rintro b w' ⟨rfl,rfl⟩;go_wp2;go_ret2;exact⟨by rw[f.out];rfl,0,rfl⟩

end Go.Proofs.YtcjcndnjpedniaaGreat
