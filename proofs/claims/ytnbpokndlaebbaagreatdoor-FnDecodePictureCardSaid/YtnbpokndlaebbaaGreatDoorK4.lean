import Derived.Test.YtnbpokndlaebbaaGreatDoorK3
set_option maxRecDepth 100000
set_option maxHeartbeats 8000000
set_option linter.all false
open Go.Value renaming int->U,slice->Y,bool->ci,agg->bi,pointer->d9,tuple->em,iface->gc
open Go.IntKind renaming i64->O
open Go.Obj renaming cells->ap
open Go.Ending renaming returned->dl
open Bool renaming and_false->akJ,false->Ba,false_and->akG,true->AT
open Go renaming Addr->aic,Calls->ahR,TypeId->SL,Value->AS,World->rl,bodyPost_ret->ahX,wpList->aiB
open Go.RowKit renaming intOf->ajZ
open Go.World renaming size_alloc->NO
open List renaming append_assoc->ait,range->aij,range_succ->aiU
open Nat renaming shiftRight_eq_div_pow->akA
open Option renaming none->ns,some->an
namespace Go.Proofs
def rN{p:Prop}(h:p:=by first|exact Nat.le_refl _|omega|(simp;done)|(simp;omega)):p:=h
abbrev rY:=@Go.World.cell?_alloc_new
def LA{p:Prop}(h:p:=by
  clear jt hy hc;go_wp2_with(first|(go_at_call 62;(with_reducible refine(cG _ HA).mono ?_);rintro e w'⟨rfl,rfl⟩)|(at_builtin;refine uD rfl rfl w w.heap.size rfl (lm.alloc _) ⟨_,0,none⟩ rfl rN rN rN (CA.alloc _) (rY _ _ _ _) ?_;intro v' w' ho3 hq3 qZ _;skip));go_roundw;case rel=>exact⟨k+1,n+1,aa,aJ,by rw[PA.out];exact ho3,hq3⟩
  case measure=>simp[intOf];omega):p:=h
def J1{p:Prop}(h:p:=by
  clear jt hy hc;go_wp2_with(first|(go_at_call 62;(with_reducible refine(cG _ HA).mono ?_);rintro e w'⟨rfl,rfl⟩));go_roundw;case rel=>exact⟨k+1,n,aa,aJ,by rw[PA.out];exact lm,CA⟩
  case measure=>simp[intOf];omega):p:=h
def J2{p:Prop}(h:p:=by
  rcases lm.dC with⟨_,h0⟩|⟨g,c,rfl,_⟩
  ·omega
  ·go_wp2;go_ret;exact⟨g,c,rfl,lm,CA⟩):p:=h
def J3{p:Prop}(h:p:=by clear h2;clear RT;go_wp2_with(first|(go_at_call 62;(with_reducible refine(cG _ HA).mono ?_);rintro e w'⟨rfl,rfl⟩)|(refine cP (n:=16) rfl _ _ _ rfl _ rfl _ df rfl aE rfl cM ?_;intro w9 b9 g9 s9));refine bodyPost_ret (kE aC aC b9.blk (Gz.gu underlying97) rfl Cz) rfl ⟨?_,KQ.out.grown g9 λk e=>by have:=aH e;omega⟩;rw[HL.out];rfl):p:=h
abbrev nd:=@List.mem_cons_self
abbrev mA:=@List.mem_cons
abbrev oy:=@List.mem_cons_of_mem
end Go.Proofs
namespace Go.Proofs.Q0
open Go.Proofs.Tryz
variable{k n B:Nat}{w:rl}{xs:List Int}{t:SL}{x y:Operand}{Q':Exit->Act->rl->Prop}{a:Act}{o:Oper}{rest:List Oper}{ops:Array Oper}{P:Program}
section
open Go.RowKit Go.WideShapes Go.ChangeShapes
def qu(acc:List Int)(x:Option (List Int)×Nat):Option (List Int)×Nat:=(x.1.map (acc++ ·),x.2)
def XF(be:Bool)(k:Nat)(s:bF):eP be (k+1) s=if(dV be s).2.2≠0 then(ns,(dV be s).2.2) else qu (dV be s).1 (eP be k (dV be s).2):=by
 rw[eP];split
 ·rfl
 ·generalize eP be k (dV be s).2=z;obtain⟨b,c⟩:=z;cases b<;>rfl
def Zv(a b:List Int)(x:Option (List Int)×Nat):qu a (qu b x)=qu (a++b) x:=by obtain⟨c,d⟩:=x;cases c<;>simp[qu]
def E4(R:Option (List Int)×Nat)(n:Nat)(w:rl)(b c:aic)(e:Ending)(w':rl):Prop:=
  (match R with
   |(an L,_)=>∃v,e=dl (em #[v,.nilIface])∧az 100 71 w' w.heap.size v n L
   |(ns,k)=>k≠0∧e=dl (em #[Y ns 0 0,kT b c k]))∧Q w w'
def az.mono{t:SL}{s:Nat}{w:rl}{B B' n:Nat}{v:AS}{xs:List Int}(h:az t s w B v n xs)(b:B'<=B):az t s w B' v n xs:=by exact C7
def aaO(b c:aic)(h:k≠0):∃a,kT b c k=gc 234 (d9 (an a)):=by
 by_cases h1:k=1
 ·exact⟨b,by rw[h1];rfl⟩
 ·obtain⟨n,d⟩:∃n,k=n+2:=⟨k-2,aa⟩;exact⟨c,by rw[d];rfl⟩
def Zw{A:Option aic}{c:Nat}(m:Nat){C D:aic}(be:Bool)(H:bC w B A xs)(hn:xs.length=n)(hc:n<=c/\c<=maxLen)(hB:B<=w.heap.size)(he:gQ w C D B)(hm:m<=4):
  ahR Gz.prog 83 #[Y A n c,U O (m:Int),ci be] w (E4 (eP be m (eJ xs,0)) m w C D):=by
 go_enter Gz.gf func83,ntmps83;go_wp2;refine(Wy H hn hc hB).mono ?_;rintro e E⟨g,rfl,hg,⟨A1,c1,d1⟩,q1⟩;go_wp2;have pm:=q1.size;have afS:=d1.lt
 have L:RB (E.alloc (ap #[d9 (an ⟨g,0,ns⟩),.nilIface] 158)) E.heap.size g (eJ xs,0) C D B A1 c1:=
  ⟨ak.new _ _ _,d1.q ((Q.refl _).alloc _),aa,aa,(he.q q1 hB).q ((Q.refl _).alloc _) aa⟩
 have qq:Q w (E.alloc (ap #[d9 (an ⟨g,0,ns⟩),.nilIface] 158)):=q1.alloc _;have f:E.heap.size<(E.alloc (ap #[d9 (an ⟨g,0,ns⟩),.nilIface] 158)).heap.size:=au;generalize E.alloc (ap #[d9 (an ⟨g,0,ns⟩),.nilIface] 158)=w2 at L qq f⊢;obtain⟨r,hr⟩:∃r,E.heap.size=r:=⟨_,rfl⟩;rw[hr] at L pm f;rw[hr];have o0:=az.nil 100 71 w2 (r+1);have Ug:g<r:=aa;have M:=EU xs;obtain⟨s0,h⟩:∃z:bF,(eJ xs,0)=z:=⟨_,rfl⟩;have N:s0.2=0:=by rw[<-h]
 have S:cj s0.1:=by rw[<-h];exact M
 rw[h] at L;rw[h];obtain⟨R,d⟩:∃z,eP be m s0=z:=⟨_,rfl⟩;have HRR:=ag d;have HSR:Hid (eP be m (eJ xs,0)=R):=by rw[h];exact d
 rw[d];clear hr H q1 d1 hn h M d he;have hm4:(m:Int)<=4:=aa;go_loopw[9,14] (λv i wr=>∃(k:Nat)(acc:List Int)(s:bF)(A':Option aic)(c':Nat),k<=m/\i=U O k/\Hid (RB wr r g s C D B A' c'/\s.2=0/\cj s.1/\az 100 71 wr (r+1) v k acc/\Q w wr/\r<wr.heap.size/\R=qu acc (eP be (m-k) s))) (λ_ i _=>m-(ajZ i).toNat)
 case atStart=>exact⟨0,[],s0,A1,c1,aa,rfl,L,N,S,o0,qq,f,by rw[Nat.sub_zero,HRR.out];obtain⟨z1,z2⟩:=R;cases z1<;>rfl⟩
 case round=>
  obtain⟨k,acc,s,A',c',hk,rfl,hK⟩:=hrel;obtain⟨k1,k2,k3,k4,k5,k6,p⟩:=hK.out;clear hK L o0 qq f S;by_cases aV:k<m
  ·have T:(k:Int)<(m:Int):=by omega
   obtain⟨j,V⟩:∃j,m-(k+1)=j:=⟨_,rfl⟩;rw[show m-k=j+1 by omega,XF] at p;have hL:=adW be k1 k3;have W:=Zt be k3;have X:=D9 be s;go_wp2;refine hL.mono ?_;rintro e w5⟨rfl,⟨A5,c5,h5⟩,x5⟩;clear hL;generalize(dV be s).1=l at X p⊢;generalize(dV be s).2=Z at h5 W p;have I:=k4.aq x5 (λx H=>by simp at H;omega);have y5:=x5.toQ k5 (λx H=>by simp at H;omega);have y6:r<w5.heap.size:=by have:=x5.size;omega
   have u:(arr l).size=71:=by rw[bP,X]
   have H5:=ag h5;have Y5:=ag y5;have K7:=ag p;clear k1 k4 k5 k6 p x5 h5 y5 k3;by_cases J:Z.2=0
   ·have ce:∀w',RB w' r g Z C D B A5 c5->w'.cell? ⟨r,1,ns⟩=an .nilIface:=λw' h'=>by have:=h'.err;rw[J] at this;exact this
    have CE:=ag ce;clear ce;go_wp2_with(first|(refine yz rfl rfl (Gz.gu underlying68) (arr l) rfl (by rw[u];exact fG) aj aa aa ?_)|(at_builtin;refine uP rfl rfl (Gz.gu underlying68) zt aj aw aw rfl (I.alloc _) ⟨_,0,ns⟩ l 1 rfl aa aa av (λj V=>iK _ l _ j V) ?_;intro v' w' O2 K;have F:=(H5.out.q ((Q.refl w5).alloc (ap (arr l) 100))).app K (I.alloc _) aa aa (by have:=H5.out.le;omega);have c6:=CE.out _ F;have H6:=ag F;clear F));go_roundw
    case rel=>
     refine⟨k+1,acc++l,Z,A5,c5,aa,aJ,H6.out,J,W,O2,(Y5.out.alloc _).grown K λb hb=>?_,?_,?_⟩
     ·have Hx:=(I.alloc (ap (arr l) 100)).below b hb;have:=Y5.out.size;omega
     ·have:=K.size;simp at this;omega
     ·rw[V,K7.out,if_neg (by simpa using J),Zv]
    case measure=>exact bj
   ·obtain⟨ae,G⟩:=aaO C D J;have ce:∀w',RB w' r g Z C D B A5 c5->w'.cell? ⟨r,1,ns⟩=an (gc 234 (d9 (an ae))):=λw' h'=>by have:=h'.err;rw[G] at this;exact this
    have CE:=ag ce;have HAE:=ag G;clear ce G;go_wp2_with(first|(refine yz rfl rfl (Gz.gu underlying68) (arr l) rfl (by rw[u];exact fG) aj aa aa ?_)|(at_builtin;refine uP rfl rfl (Gz.gu underlying68) zt aj aw aw rfl (I.alloc _) ⟨_,0,ns⟩ l 1 rfl aa aa av (λj V=>iK _ l _ j V) ?_;intro v' w' O2 K;have F:=(H5.out.q ((Q.refl w5).alloc (ap (arr l) 100))).app K (I.alloc _) aa aa (by have:=H5.out.le;omega);have c6:=CE.out _ F;have H6:=ag F;clear F))
    go_quiet(fail)
    go_wp2;have d:R=(ns,Z.2):=by rw[K7.out,if_pos J];rfl
    refine ahX (v:=em #[Y ns 0 0,gc 234 (d9 (an ae))]) (by simp[results,results83,go_sem]) rfl ?_;unfold E4;rw[d];refine⟨⟨J,by rw[HAE.out]⟩,((Y5.out.alloc _).grown K λb hb=>?_).drewN _⟩;have Hx:=(I.alloc (ap (arr l) 100)).below b hb;have:=Y5.out.size;omega
  ·have T:k=m:=by omega
   subst T;rw[Nat.sub_self,eP] at p;have d:R=(an acc,s.2):=by rw[p];simp[qu]
   clear p;go_wp2;refine ahX (v:=em #[u9,.nilIface]) (by simp[results,results83,go_sem]) rfl ?_;unfold E4
   first
    |rw[d]
    |rw[HSR.out,d]
   exact⟨⟨_,rfl,k4.mono aa⟩,k5⟩
end
section
open Go.RowKit Go.WideShapes Go.ChangeShapes
structure bH(v:AS)(w:rl)(v':AS)(w':rl):Prop where
 bI:w.grownBy w' v.ownBlock
 own:v'.ownBlock=v.ownBlock\/∃k,v'.ownBlock=an k/\w.heap.size<=k
section
variable{v v' Uh:AS}{w w' po:rl}
def bH.refl(v:AS)(w:rl):bH v w v w:=⟨⟨rfl,rfl,rfl,ay _,λ_ _ _=>rfl⟩,.inl rfl⟩
theorem bH.trans(h:bH v w v' w')(k:bH v' w' Uh po):bH v w Uh po:=by
 refine⟨⟨k.bI.os.trans h.bI.os,k.bI.tape.trans h.bI.tape,k.bI.output.trans h.bI.output,aQ h.bI.size k.bI.size,λi hi c=>?_⟩,?_⟩
 ·refine(k.bI.block i (cC hi h.bI.size) λe=>?_).trans (h.bI.block i hi c);rcases h.own with h1|⟨j,h1,d⟩
  ·simp_all
  ·grind
 ·rcases k.own with b|⟨j,b,f⟩
  ·rcases h.own with h1|⟨j,h1,d⟩
   ·simp_all
   ·simp_all
  ·exact .inr ⟨j,b,aQ h.bI.size f⟩
def bH.Ui(v:AS)(h:Q w w'):bH v w v w':=⟨⟨h.os,h.tape,h.output,h.size,λi hi _=>h.block i hi⟩,.inl rfl⟩
def bH.q(h:bH v w v' w')(k:Q w' po):bH v w v' po:=h.trans (.Ui v' k)
def bH.size(h:bH v w v' w'):w.heap.size<=w'.heap.size:=h.bI.size
def bH.toQ{a:rl}(h:bH v w v' w')(hq:Q a w)(b:∀k,v.ownBlock=an k->a.heap.size<=k):Q a w':=hq.grown h.bI b
def bH.aq{S:List Nat}{a:rl}(h:bH v w v' w')(b:al S a w)(c:∀k,v.ownBlock=an k->k∈S\/a.heap.size<=k):al S a w':=b.iL h.bI c
def bH.set(h:bH v w v' w'){p:aic}(c:w.heap.size<=p.block)(u:AS):bH v w v' (w'.setCell p u):=
 ⟨⟨h.bI.os,h.bI.tape,h.bI.output,by simpa[World.setCell] using h.bI.size,λi hi b=>(im w' p u i aa).trans (h.bI.block i hi b)⟩,h.own⟩
def Nb.eK{g:Nat}(k:Nb t n w g xs)(h:bH v w v' w')(b:v.ownBlock≠an g):Nb t n w' g xs:=k.grown h.bI (λe=>b e.symm)
def ak.eK{g:Nat}{cs:Array AS}(k:ak w g t cs)(h:bH v w v' w')(b:v.ownBlock≠an g):ak w' g t cs:=k.grown h.bI (λe=>b e.symm)
end
theorem gh{s:Nat}{v:AS}(g:o.guard=ns){st:SL}(A:o.op=.call {callee:=.builtin .append,args:=#[x,y],argTypes:=#[st,st]})
  (hu:P.underlying st=an (.slice t)){z:AS}{d:Nat}(e:(P.info? t).map (λi=>(i.zero,i.size,i.bytes))=an (an z,s,d))(C:z.cells.size=s)(D:0<s)(l:d<=1000)
  (E:a.eval x=v)(b:az t s w B v n xs)(ad:aic)(f:List Int)(m:Nat){c:Nat}(F:a.eval y=Y (an ad) m c)(u:f.length=m*s)
  (G:n+m<=1000000000)(p:B<=w.heap.size)(hc:∀j,j<f.length->w.cell? (ad.add j)=an (U O (f[j]?.getD 0)))
  (h:∀v' w',az t s w' B v' (n+m) (xs++f)->bH v w v' w'->aiB P ops Q' rest (a.put o.dst v') w'):aiB P ops Q' (o::rest) a w:=by
 obtain⟨i0,hi,q,hz1,hz2⟩:=info_parts e;refine wpList_append_own_at _ g x y st A B t i0 z s d hu hi q hz1 hz2 C D v n _ E b.2 ad m c (f.map (Value.int .i64)) F (by rw[List.length_map];exact u) ?_ ?_ ?_ ?_ p ?_
 ·grind
 ·exact Df
 ·unfold maxLen;omega
 ·exact aQ (eZ G l) aw
 ·intro v' w' h1 H _ r;refine h v' w' ⟨by rw[List.length_append,b.1,u,Nat.add_mul],by simpa using h1⟩ ⟨H,?_⟩;rcases r with r|r
  ·simp_all
  ·simp_all
def Nk(b:o.guard=ns){c:SL}(d:o.op=.binOp .shr t x y c){X:Int}{i:Nat}(f:a.eval x=U O X)(g:a.eval y=U O (i:Int))(hi:i<=60){V:Int}(j:X/2^i=V)
  (h:aiB P ops Q' rest (a.put o.dst (U O V)) w):aiB P ops Q' (o::rest) a w:=by
 refine wpList_plain b λK hK=>?_;have e:Op.shift .shr .i64 X .i64 (i:Int)=pure (U O V):=eN;unfold Oper.wp execOp;simp only[d,f,g,eqGuard_shr,binOp_shr,e,Sem.run_bind,Sem.run_pure,Result.andThen_ok];exact hK _ _ h
def Nl(b:o.guard=ns){c:SL}(d:o.op=.binOp .shl t x y c){X:Int}{i:Nat}(f:a.eval x=U O X)(g:a.eval y=U O (i:Int))(hi:i<=60){V:Int}(j:IntKind.i64.wrap (X*2^i)=V)
  (h:aiB P ops Q' rest (a.put o.dst (U O V)) w):aiB P ops Q' (o::rest) a w:=by
 refine wpList_plain b λK hK=>?_;have e:Op.shift .shl .i64 X .i64 (i:Int)=pure (U O V):=eN;unfold Oper.wp execOp;simp only[d,f,g,eqGuard_shl,binOp_shl,e,Sem.run_bind,Sem.run_pure,Result.andThen_ok];exact hK _ _ h
def Qm(M i:Nat):(M:Int)/2^i=((M>>>i:Nat):Int):=by rw[akA];simp
def acw(n:Nat)(h:n<9223372036854775808):bits .and .i64 (n:Int) 1=((n%2:Nat):Int):=by have:=bits_mask .i64 63 aw (λn h0 h1=>aD _ ⟨aa,aa⟩) 1 aw (n:Int) aa aa;simpa using this
end
section
open Go.RowKit Go.WideShapes Go.ChangeShapes
def r9{v:AS}(n:Int)(b:Nat){m:Nat}(B:Nat){D:List Int}(ho:az 180 2 w B v m D)(hB:B<=w.heap.size)(h0:0<=n)(h1:n<=65533)(hb:b<=33)(hm:m<=100000000):
  ahR Gz.prog 153 #[v,U O n,U O (b:Int)] w λe w'=>∃v',e=dl v'/\az 180 2 w' B v' (m+dN n) (D++dm n b)/\bH v w v' w':=by
 have Z:∀w,ahR Gz.prog 175 #[.int .u64 (n+1)] w λe w'=>e=dl (U O (Lib.bitLen (n+1).toNat))/\w=w':=λw=>(bitsLen (n+1) w aa aa).mono λ_ _ h=>⟨h.1,h.2.symm⟩;obtain⟨M,W⟩:∃M:Nat,(n+1).toNat=M:=⟨_,rfl⟩;have H8:n+1=(M:Int):=aa;have p:=Yn M aa aa;obtain⟨k,G⟩:∃k,M.log2=k:=⟨_,rfl⟩
 have afT:k<=15:=by
  have:k<16:=by rw[<-G];exact(Nat.log2_lt (by omega)).2 (by omega)
  omega
 have H:dm n b=jO b k (k+1)++lj b M k k:=by unfold dm;rw[W,G]
 have I:dN n=2*k+1:=by unfold dN;rw[W,G]
 rw[W,p,G,H8,show((k+1:Nat):Int)=(k:Int)+1 by omega] at Z;have Ia:=ag H;have Ib:=ag I;have HL:=ag Z;have wc:IntKind.u64.wrap (n+1)=n+1:=u64_in aa aa;have wn:wrap64 (n+1)=n+1:=ig ⟨aa,aa⟩;have mp:(k:Int)<=15:=aa;clear W p H I Z G;go_enter Gz.gf func153,ntmps153;go_wp2;refine(HL.out _).mono ?_;rintro e w'⟨rfl,rfl⟩;go_wp2;go_loopw[0,18] (λu i wr=>∃j:Nat,j<=k+1/\i=U O j/\Hid (az 180 2 wr B u (m+j) (D++jO b k j)/\bH v w u wr)) (λ_ i _=>k+1-(ajZ i).toNat)
 case atStart=>exact⟨0,aa,rfl,by simpa[jO] using ho,bH.refl _ _⟩
 case round=>
  obtain⟨j,E,rfl,hK⟩:=hrel;obtain⟨r,f⟩:=hK.out;clear hK ho;have dg:=f.size;by_cases aV:j<k+1
  ·have tQ:(j:Int)<(k:Int)+1:=by omega
   have J:((b:Int)+min (j:Int) 5)=(b:Int)+((min j 5:Nat):Int):=aa;have c:=EX b k j;obtain⟨q,hq⟩:∃q,(b:Int)+((min j 5:Nat):Int)=q:=⟨_,rfl⟩;rw[hq] at J c;clear hq;by_cases d:j=k
   ·subst d;rw[if_pos rfl] at c;have s:=ag c;clear c;go_wp2_with(at_builtin;refine gh rfl rfl (Gz.gu underlying129) gZ rfl aw aw rfl (r.alloc _) ⟨_,0,ns⟩ [q,0] 1 rfl rfl aa av (λj E=>iK _ [q,0] _ j E) ?_;intro v' w' K L);go_roundw;case rel=>exact⟨j+1,aa,aJ,by rw[s.out,<-ait];exact K,(f.q ((Q.refl wr).alloc _)).trans L⟩
    case measure=>simp[ajZ]
   ·rw[if_neg d] at c;have hjb:((j:Int)==(k:Int))=Ba:=av;have s:=ag c;clear c d;go_wp2_with(at_builtin;refine gh rfl rfl (Gz.gu underlying129) gZ rfl aw aw rfl (r.alloc _) ⟨_,0,ns⟩ [q,1] 1 rfl rfl aa av (λj E=>iK _ [q,1] _ j E) ?_;intro v' w' K L);go_roundw;case rel=>exact⟨j+1,aa,aJ,by rw[s.out,<-ait];exact K,(f.q ((Q.refl wr).alloc _)).trans L⟩
    case measure=>exact bj
  ·have d:j=k+1:=by omega
   rw[d] at r;have tQ:¬(j:Int)<(k:Int)+1:=aa;clear d;have wk:wrap64 ((k:Int)-1)=(k:Int)-1:=ig ⟨aa,aa⟩;have N:=ag r;have R:=ag f;clear r f;go_wp2;go_loopw[0,10] (λu i wr=>∃t:Nat,t<=k/\i=U O ((k:Int)-1-(t:Int))/\Hid (az 180 2 wr B u (m+(k+1)+t) (D++jO b k (k+1)++lj b M k t)/\bH v w u wr)) (λ_ i _=>(ajZ i+1).toNat)
   case atStart=>exact⟨0,aa,au,by simpa[lj] using N.out,R.out⟩
   case round=>
    obtain⟨t,ht,rfl,hK⟩:=hrel;obtain⟨r,f⟩:=hK.out;clear hK N R;have dg:=f.size;by_cases aV:t<k
    ·have A:=EY b M k t;obtain⟨i,hi⟩:∃i,k-1-t=i:=⟨_,rfl⟩;have C:(k:Int)-1-(t:Int)=(i:Int):=aa;rw[hi] at A;have g:=ag A;clear A;rw[C];have Ic:=ag C;clear C;have afU:(i:Int)<15:=aa;have ahi:(M:Int)<65536:=aa;obtain⟨F,l⟩:∃F:Nat,M>>>i=F:=⟨_,rfl⟩;have hV:(M:Int)/2^i=(F:Int):=by rw[Qm,l]
     have S:F<=M:=by rw[<-l,akA];exact Nat.div_le_self ..
     have T:=acw F aa;rw[l] at g;obtain⟨bt,V⟩:∃z:Int,((F%2:Nat):Int)=z:=⟨_,rfl⟩;rw[V] at T g;have X:=ag hV;clear hV l V S;obtain⟨q,hq⟩:∃q,(b:Int)+6=q:=⟨_,rfl⟩;rw[hq] at g;go_wp2_with(first|(refine Nk rfl rfl rfl rfl aa X.out ?_)|(at_builtin;refine gh rfl rfl (Gz.gu underlying129) gZ rfl aw aw rfl (r.alloc _) ⟨_,0,ns⟩ [q,bt] 1 rfl rfl aa av (λj E=>iK _ [q,bt] _ j E) ?_;intro v' w' K L));go_roundw;case rel=>exact⟨t+1,aa,by have:=Ic.out;go_num,by rw[g.out,<-ait];exact K,(f.q ((Q.refl wr).alloc _)).trans L⟩
     case measure=>simp[ajZ]
    ·have Ie:t=k:=by omega
     subst Ie;have X:=Ia.out;have HC:=Ib.out;have HNV:Hid (D++dm n b=D++jO b t (t+1)++lj b M t t):=by rw[Hid,X,ait]
     have Ig:Hid (m+dN n=m+(t+1)+t):=by rw[Hid,HC];omega
     clear X HC;go_wp2;go_ret;refine⟨_,rfl,?_,f⟩;rw[HNV.out,Ig.out];exact r
end
section
open Go.RowKit Go.WideShapes Go.ChangeShapes
def ss(n:Int)(b:Nat)(w:rl)(h0:0<=n)(h1:n<=65533)(hb:b<=33):
  ahR Gz.prog 131 #[U O n,U O (b:Int)] w λe w'=>∃v',e=dl v'/\az 180 2 w' w.heap.size v' (dN n) (dm n b)/\Q w w':=by
 obtain⟨M,hM⟩:∃M:Nat,(n+1).toNat=M:=⟨_,rfl⟩;have H8:n+1=(M:Int):=aa;have F:M≠0:=aa;have hM6:M<=65534:=aa;obtain⟨k,hk⟩:∃k,M.log2=k:=⟨_,rfl⟩
 have afT:k<=15:=by
  have:k<16:=by rw[<-hk];exact(Nat.log2_lt F).2 (by omega)
  omega
 have C:∀j,(j<k->(2:Int)*2^j<=(M:Int))/\(j=k->(M:Int)<2*2^j):=by
  intro j;have e:(2:Int)*2^j=((2^(j+1):Nat):Int):=by rw[Nat.pow_succ];simp[Int.mul_comm]
  rw[e];constructor
  ·intro h;have:2^(j+1)<=M:=(Nat.le_log2 F).1 aa;omega
  ·intro h;have:M<2^(j+1):=(Nat.log2_lt F).1 aa;omega
 have f:∀j,j<=k->0<=(2:Int)*2^j/\(2:Int)*2^j<=131072:=by
  intro j D;have:=vr j aa;have e:(2:Int)*2^j=2^(j+1):=by rw[Int.pow_succ];omega
  have p:(0:Int)<2^(j+1):=Int.pow_pos aw;omega
 have R:dm n b=jO b k (k+1)++lj b M k k:=by unfold dm;rw[hM,hk]
 have S:dN n=2*k+1:=by unfold dN;rw[hM,hk]
 have Ia:=ag R;have Ib:=ag S;have HP:=ag C;have HP2:=ag f;have wn:wrap64 (n+1)=n+1:=ig ⟨aa,aa⟩;have o0:=az.jb 180 2 w w.heap.size (ay _);have q0:=(Q.refl w).alloc (ap #[] 180);clear hM R S hk C f;go_enter Gz.gf func131,ntmps131;go_wp2;go_loopw[5,6] (λu i wr=>∃j:Nat,j<=k/\i=U O j/\Hid (az 180 2 wr w.heap.size u j (jO b k j)/\Q w wr)) (λ_ i _=>k-(ajZ i).toNat)
 case atStart=>exact⟨0,aa,rfl,o0,q0⟩
 case round=>
  obtain⟨j,D,rfl,hK⟩:=hrel;obtain⟨m,E⟩:=hK.out;clear hK o0 q0;have dg:=E.size;have tQ:(j:Int)<=15:=aa;obtain⟨P,hP⟩:∃P,(2:Int)*2^j=P:=⟨_,rfl⟩;have l:=HP.out j;have hPQ:=HP2.out j D;rw[hP] at l hPQ;have HV:Hid (IntKind.i64.wrap ((2:Int)*2^j)=P):=by rw[Hid,hP];exact aD _ ⟨by omega,by omega⟩
  have c:=EX b k j;have T:((b:Int)+min (j:Int) 5)=(b:Int)+((min j 5:Nat):Int):=aa;obtain⟨q,hq⟩:∃q,(b:Int)+((min j 5:Nat):Int)=q:=⟨_,rfl⟩;rw[hq] at T c;clear hq hP;by_cases G:j<k
  ·have hle:P<=(M:Int):=l.1 G;rw[if_neg aa] at c;have H:=ag c;clear c l;go_wp2_with(first|(refine Nl rfl rfl rfl rfl aa HV.out ?_)|(at_builtin;refine gh rfl rfl (Gz.gu underlying129) gZ rfl aw aw rfl (m.alloc _) ⟨_,0,ns⟩ [q,1] 1 rfl rfl aa av (λj D=>iK _ [q,1] _ j D) ?_;intro v' w' L N));go_roundw;case rel=>exact⟨j+1,aa,aJ,by rw[H.out];exact L,(E.alloc _).grown N.bI λg V=>(m.alloc (ap #[U O q,U O 1] 180)).below g V⟩
   case measure=>exact bj
  ·have d:j=k:=by omega
   have hgt:¬P<=(M:Int):=by have:=l.2 d;omega
   rw[if_pos d] at c;have H:=ag c;have W:=ag d;have wk:wrap64 ((j:Int)-1)=(j:Int)-1:=ig ⟨aa,aa⟩;clear c l d G;go_wp2_with(first|(refine Nl rfl rfl rfl rfl aa HV.out ?_)|(at_builtin;refine gh rfl rfl (Gz.gu underlying129) gZ rfl aw aw rfl (m.alloc _) ⟨_,0,ns⟩ [q,0] 1 rfl rfl aa av (λj D=>iK _ [q,0] _ j D) ?_;intro v' w' L N))
   have HO:Hid (az 180 2 w' w.heap.size v' (k+1) (jO b k (k+1))):=by have hh:=L;have d:=W.out;rw[<-H.out] at hh;rw[Hid,<-d];rw[<-d] at hh;exact hh
   have X:=ag ((E.alloc _).grown N.bI λg V=>(m.alloc (ap #[U O q,U O 0] 180)).below g V);clear L N m E;go_loopw[5,7] (λu i wr=>∃t:Nat,t<=k/\i=U O ((k:Int)-1-(t:Int))/\Hid (az 180 2 wr w.heap.size u (k+1+t) (jO b k (k+1)++lj b M k t)/\Q w wr)) (λ_ i _=>(ajZ i+1).toNat)
   case atStart=>exact⟨0,aa,by have:=W.out;subst this;simp,by simpa[lj] using HO.out,X.out⟩
   case round=>
    obtain⟨t,ht,rfl,hK⟩:=hrel;obtain⟨m,E⟩:=hK.out;clear hK HO X;have dg:=E.size;by_cases G:t<k
    ·have I:=EY b M k t;obtain⟨i,hi⟩:∃i,k-1-t=i:=⟨_,rfl⟩;have J:(k:Int)-1-(t:Int)=(i:Int):=aa;rw[hi] at I;have r:=ag I;clear I;rw[J];have Ic:=ag J;clear J;have afU:(i:Int)<15:=aa;obtain⟨s,A⟩:∃s:Nat,M>>>i=s:=⟨_,rfl⟩;have hV:(M:Int)/2^i=(s:Int):=by rw[Qm,A]
     have Z:s<=M:=by rw[<-A,akA];exact Nat.div_le_self ..
     have hand:(s:Int).tmod 2=((s%2:Nat):Int):=by rw[Int.tmod_eq_emod_of_nonneg (by omega)];omega
     have K:(s:Int)%2=((s%2:Nat):Int):=aa;rw[A] at r;obtain⟨bt,Uj⟩:∃z:Int,((s%2:Nat):Int)=z:=⟨_,rfl⟩;rw[Uj] at hand K r;have HV2:=ag hV;clear hV A Uj Z;obtain⟨q2,hq2⟩:∃q,(b:Int)+6=q:=⟨_,rfl⟩;rw[hq2] at r;go_wp2_with(first|(refine Nk rfl rfl rfl rfl aa HV2.out ?_)|(at_builtin;refine gh rfl rfl (Gz.gu underlying129) gZ rfl aw aw rfl (m.alloc _) ⟨_,0,ns⟩ [q2,bt] 1 rfl rfl aa av (λj D=>iK _ [q2,bt] _ j D) ?_;intro v2 w2 L N));go_roundw;case rel=>exact⟨t+1,aa,by have:=Ic.out;go_num,by rw[r.out,<-ait];exact L,(E.alloc _).grown N.bI λg V=>(m.alloc (ap #[U O q2,U O bt] 180)).below g V⟩
     case measure=>simp[ajZ]
    ·have Ie:t=k:=by omega
     rw[Ie] at m;have ahj:(k:Int)-1-(t:Int)= -1:=aa;have Ig:Hid (dN n=k+1+k):=by rw[Hid,Ib.out];omega
     go_wp2;go_ret;refine⟨_,rfl,?_,E⟩;rw[Ia.out,Ig.out];exact m
end
section
open Go.RowKit Go.WideShapes Go.ChangeShapes
def lk(s k:Nat):Nat:=if s%2=0 then 3-k else k
def tg(s k:Nat)(xs:List Int):List Int:=if lk s k<=s/\s-lk s k<=3 then xs++[4*(lk s k:Int)+(s:Int)-(lk s k:Int)] else xs
def mM(s k:Nat)(xs:List Int):List Int:=(aij k).foldl (λst j=>tg s j st) xs
def kR(s:Nat):List Int:=(aij s).foldl (λst j=>mM j 4 st) []
def Zx(s k:Nat)(xs:List Int):mM s (k+1) xs=tg s k (mM s k xs):=by simp[mM,aiU]
def Yp(s:Nat):kR (s+1)=mM s 4 (kR s):=by simp[kR,aiU]
def acx:kR 7=kW:=aF
def adX:∀s,s<7->∀k,k<=4->(mM s k (kR s)).length<=16:=aw
def N7:ahR Gz.prog 140 #[] w λe w'=>∃g c,e=dl (Y (an ⟨g,0,ns⟩) 16 c)/\Own w' w.heap.size (Y (an ⟨g,0,ns⟩) 16 c) 16 kW/\Q w w':=by
 have l:=Own.jb w w.heap.size (ay _);have m:=(Q.refl w).alloc (ap #[] 3);go_enter Gz.gf func140,ntmps140;go_wp2;go_loopw[1,2] (λv i wr=>∃(s n:Nat),s<=7/\i=U O s/\Own wr w.heap.size v n (kR s)/\Q w wr) (λ_ i _=>7-(ajZ i).toNat)
 case atStart=>exact⟨0,0,ez _,rfl,l,m⟩
 case round=>
  obtain⟨s,n,E,rfl,lm,CA⟩:=hrel;clear l m;by_cases h:s<7
  ·have b:(s:Int)<7:=by omega
   have HO:=ag lm;have p:=ag CA;clear lm CA;go_wp2;go_loopw[1,3] (λv i wr=>∃(k n:Nat),k<=4/\i=U O k/\Own wr w.heap.size v n (mM s k (kR s))/\Q w wr) (λ_ i _=>4-(ajZ i).toNat)
   case atStart=>exact⟨0,n,aa,rfl,HO.out,p.out⟩
   case round=>
    obtain⟨k,n,u,rfl,lm,CA⟩:=hrel;clear HO p;by_cases z:k<4
    ·have d:(k:Int)<4:=by omega
     have A:n<=16:=by have h1:=adX s h k u;have F:=lm.len;omega
     have C:=CA.size;have jt:=Zx s k (kR s);generalize mM s k (kR s)=xs at lm jt;by_cases q:s%2=0
     ·have j:((s:Int)%2==0)=AT:=by simp;omega
      have hy:lk s k=3-k:=by unfold lk;rw[if_pos q]
      by_cases hc:lk s k<=s/\s-lk s k<=3
      ·unfold tg at jt;rw[if_pos hc,hy,show((3-k:Nat):Int)=3-(k:Int) by omega] at jt;rw[hy] at hc;have PA:=ag jt;have HA:Hid (decide ((0:Int)<=(s:Int)-(3-(k:Int))/\(s:Int)-(3-(k:Int))<=3)=AT):=decide_eq_true aa;exact LA
      ·unfold tg at jt;rw[if_neg hc] at jt;rw[hy] at hc;have PA:=ag jt;have HA:Hid (decide ((0:Int)<=(s:Int)-(3-(k:Int))/\(s:Int)-(3-(k:Int))<=3)=Ba):=decide_eq_false aa;exact J1
     ·have j:((s:Int)%2==0)=Ba:=by simp;omega
      have hy:lk s k=k:=by unfold lk;rw[if_neg q]
      by_cases hc:lk s k<=s/\s-lk s k<=3
      ·unfold tg at jt;rw[if_pos hc,hy] at jt;rw[hy] at hc;have PA:=ag jt;have HA:Hid (decide ((0:Int)<=(s:Int)-(k:Int)/\(s:Int)-(k:Int)<=3)=AT):=decide_eq_true aa;exact LA
      ·unfold tg at jt;rw[if_neg hc] at jt;rw[hy] at hc;have PA:=ag jt;have HA:Hid (decide ((0:Int)<=(s:Int)-(k:Int)/\(s:Int)-(k:Int)<=3)=Ba):=decide_eq_false aa;exact J1
    ·have d:k=4:=by omega
     subst d;have r:Hid (kR (s+1)=mM s 4 (kR s)):=Yp s;generalize mM s 4 (kR s)=xs at lm r;go_wp2;go_roundw;case rel=>exact⟨s+1,n,aa,aJ,by rw[r.out];exact lm,CA⟩
     case measure=>exact bj
  ·have b:s=7:=by omega
   subst b;rw[acx] at lm;have D:=lm.len;have f:n=16:=by rw[zS] at D;omega
   subst f;exact J2
end
section
open Go.RowKit Go.WideShapes Go.ChangeShapes
def Zy{rs:List (Int×Int)}(c:k<rs.length)(b:List Int):fP (rs.drop k) b 16=ns:=by rw[El c,if_pos];omega
def aaP{A:Option aic}(c:Nat){rs:List (Int×Int)}(hx:Rd w B A (fl rs))(hn:rs.length=n)(wZ:n<=16)(hB:B<=w.heap.size):
  ahR Gz.prog 102 #[Y A n c] w λe w'=>e=dl (em #[bi (arr ((gI rs).getD df)),ci (gI rs).isSome])/\Q w w':=by
 have H:=Nb.new 97 16 w df rfl;have b1:=Nb.new 97 16 (w.alloc (ap (arr df) 97)) df rfl;rw[NO] at b1;have u:=H.alloc (ap (arr df) 97);have hnn:(n:Int)<=16:=aa;go_enter Gz.gf func102,ntmps102;go_wp2_with((refine cP (n:=16) rfl _ _ _ rfl _ rfl _ df rfl aE rfl cM ?_;intro w9 I C N));refine(N7).mono ?_;rintro e w1⟨h,ch,rfl,o1,q1⟩;have b2:=(u.grown C au).q q1;have b3:=I.q q1;have qq:Q w w1:=Q.trans (((Q.refl w).alloc _).alloc _|>.grown C λk e=>by have:=aH e;omega) q1;have R:w9.heap.size=w.heap.size+2:=by rw[N];simp
 have o2:=o1.mono (B':=w.heap.size+2) aa;have S:=q1.size;have T:w.heap.size+1<w1.heap.size:=aa;clear H b1 u C N I q1 o1;go_wp2;have HX:=ag hx;clear hx;go_loopw[6,7] (λv i wr=>∃(k p:Nat)(b:List Int),k<=n/\p<=16/\(p=16->k=n)/\i=U O k/\v=U O p/\Hid (Nb 97 16 wr w.heap.size df/\Nb 97 16 wr (w.heap.size+1) b/\Own wr (w.heap.size+2) (Y (an ⟨h,0,ns⟩) 16 ch) 16 kW/\Q w wr/\fP (rs.drop k) b p=gI rs)) (λ_ i _=>n-(ajZ i).toNat)
 case atStart=>exact⟨0,0,df,aa,aa,aa,rfl,rfl,b2,b3,o2,qq,rfl⟩
 case round=>
  obtain⟨k,p,b,hk,hp,Uk,rfl,rfl,hK⟩:=hrel;obtain⟨k0,k1,k5,kq,kl⟩:=hK.out;clear hK b2 b3 o2 qq S T R;by_cases aV:k<n
  ·have rx:(k:Int)<(n:Int):=by omega
   have D:k<rs.length:=aa;obtain⟨f1,f2⟩:=AL rs k D;have d:=El D b p;have wH:p=15->True:=λ_=>trivial;rw[kl] at d;generalize rs[k]=r at f1 f2 d;obtain⟨z,l⟩:=r;dsimp only at f1 f2 d;obtain⟨bb,oo,rfl,Hx,hc⟩:=HX.out.q kq hB mZ;have c1:=hc (k*2) mZ;have V:=hc (k*2+1) mZ;rw[f1] at c1;rw[f2] at V;rw[<-Nat.add_assoc] at V;have afR:(p:Int)<=15:=aa;clear hc f1 f2;have W:=ag k0;have E:=ag k1;have J:=ag k5;have KQ:=ag kq;clear k0 k1 k5 kq kl;by_cases RT:l=0\/z<0\/16-(p:Int)<=z
   ·rw[if_pos RT] at d;have HL:=ag d;clear d;have H:=W.out;by_cases h2:0<=z/\z<=15-(p:Int)
    ·have HA:Hid (decide ((0:Int)<=z/\z<=15-(p:Int))=AT):=decide_eq_true h2;have h1:l=0:=aa;subst h1;exact J3
    ·have HA:Hid (decide ((0:Int)<=z/\z<=15-(p:Int))=Ba):=decide_eq_false h2;exact J3
   ·rw[if_neg RT] at d;have HL:=ag d;have In:(l==0)=Ba:=av;have t7:0<=z:=aa;have hz1:z<16-(p:Int):=aa;have HA:Hid (decide ((0:Int)<=z/\z<=15-(p:Int))=AT):=decide_eq_true aa;clear d RT;obtain⟨s,rfl⟩:∃s:Nat,z=(s:Int):=⟨z.toNat,aa⟩;rw[Int.toNat_natCast] at HL;have hq:p+s<16:=aa;have X:(p:Int)+(s:Int)<16:=aa;obtain⟨q,F⟩:∃q,p+s=q:=⟨_,rfl⟩;have f:(p:Int)+(s:Int)=(q:Int):=aa;have Z:=ag f;rw[F] at HL hq;rw[f] at X;clear F f;obtain⟨t,ht⟩:∃t,gV[q]?.getD 0=t:=⟨_,rfl⟩;have m:t<16:=by have:=tf q hq;omega
    have Hy:(t:Int)<16:=aa;rw[ht] at HL;have c5:=J.out.at q hq;rw[An hq,ht] at c5;have Ih:=J.out.dC;go_wp2_with((go_at_call 62;(with_reducible refine(cG _ HA).mono ?_);rintro e w'⟨rfl,rfl⟩));rw[Z.out];have K:=E.out.at t m;generalize b[t]?.getD 0=bt at K
    go_still_tail 9,aj
    change aiB _ _ _ _ _ wr.drew;have K:=E.out.drew.at t m;generalize b[t]?.getD 0=bt at K;have ft:=E.out.drew.free t;have L:=ag (W.out.drew.aL (p:=⟨w.heap.size+1,t,ns⟩) au (U O l));have F1:=ag (E.out.drew.set t l);have F5:=ag (J.out.drew.aL (p:=⟨w.heap.size+1,t,ns⟩) au (U O l));have M:=ag (KQ.out.drew.set (p:=⟨w.heap.size+1,t,ns⟩) au (U O l));generalize wr.drew=w3 at K ft L F1 F5 M⊢;clear c5 c1 V W E J KQ ht;by_cases g:q+1=16/\k+1<n
    ·obtain⟨G,hf2⟩:=g
     have HL2:Hid (gI rs=ns):=by have hh:=HL.out;rw[G,Zy aa] at hh;exact hh
     have j:q=15:=aa;subst j;have hkl:(k:Int)<(n:Int)-1:=aa;have H:=L.out;go_wp2_with((refine cP (n:=16) rfl _ _ _ rfl _ rfl _ df rfl aE rfl cM ?_;intro w9 I C N));refine ahX (kE aC aC I.blk (Gz.gu underlying97) rfl Cz) rfl ⟨?_,M.out.grown C λk e=>by have:=aH e;omega⟩;rw[HL2.out];rfl
    ·by_cases G:q+1=16
     ·have j:q=15:=by omega
      subst j;have hkl:¬(k:Int)<(n:Int)-1:=aa;have ahk:k+1=n:=aa;clear g;go_wp2;go_roundw;case rel=>exact⟨k+1,15+1,_,aa,aa,aa,aJ,aJ,L.out,F1.out,F5.out,M.out,HL.out.symm⟩
      case measure=>exact bj
     ·have ahl:(((q:Int)+1)==16)=Ba:=by simp;omega
      clear g;go_wp2;go_roundw;case rel=>exact⟨k+1,q+1,_,aa,aa,aa,aJ,aJ,L.out,F1.out,F5.out,M.out,HL.out.symm⟩
      case measure=>exact bj
  ·exact J0
end
section
open Go.RowKit Go.WideShapes Go.ChangeShapes
def Nn(xs:List Int)(c:k<16):(lN xs).drop k=xs[gV[k]?.getD 0]?.getD 0::(lN xs).drop (k+1):=by have d:(lN xs).length=16:=aC;rw[List.drop_eq_getElem_cons aa];have b:k<gV.length:=aE;simp[lN,b]
def Em(xs:List Int):(lN xs).length=16:=aF
def En:∀(xs:List Int)(z:Int),(iw xs z).length<=xs.length
 |[],_=>by simp[iw]
 |x::r,z=>by
  rw[iw];split
  ·have:=En r (z+1);simp;omega
  ·have:=En r 0;simp;omega
def Eo(xs:List Int):(dw xs).length<=16:=by have:=En (lN xs) 0;exact this
def acy(w:rl)(M:xs.length=16):
  ahR Gz.prog 169 #[bi (arr xs)] w λe w'=>∃v',e=dl v'/\az 140 2 w' w.heap.size v' (dw xs).length (fl (dw xs))/\Q w w':=by
 have s1:=bP xs;rw[M] at s1;have N:=(Nb.new 97 16 w xs M);have D:=az.jb 140 2 (w.alloc (ap (arr xs) 97)) w.heap.size au;have R:Q w ((w.alloc (ap (arr xs) 97)).alloc (ap #[] 140)):=aU;have S:=N.alloc (ap #[] 140);rw[NO] at D;go_enter Gz.gf func169,ntmps169;go_wp2;refine(N7).mono ?_;rintro e w1⟨h,ch,rfl,r,q1⟩;have E:=S.q q1;have T:=D.q q1;have V:=R.trans q1;have BP:w.heap.size<w1.heap.size:=by have:=E.lt;omega
 have Ul:w.heap.size+2<=h:=by have:=r.block.1;simpa using this
 clear N S D R q1;go_wp2;have Ih:=r.dC;have F:=ag r;have W:=ag E;have X:=ag V;have m:∀g,(Value.slice (an ⟨w.heap.size+1,0,ns⟩) 0 0).ownBlock=an g->g=w.heap.size+1:=λg c=>by injection c with c;exact c.symm
 clear r E V;go_loopw[3,5,6] (λu zz i wr=>∃(k z:Nat)(acc:List (Int×Int)),k<=16/\i=U O k/\zz=U O z/\z<=k/\acc.length<=k/\Hid (az 140 2 wr w.heap.size u acc.length (fl acc)/\Own wr (w.heap.size+2) (Y (an ⟨h,0,ns⟩) 16 ch) 16 kW/\Nb 97 16 wr w.heap.size xs/\Q w wr/\(∀g,u.ownBlock=an g->g≠w.heap.size/\g≠h)/\h<wr.heap.size/\acc++iw ((lN xs).drop k) (z:Int)=dw xs)) (λ_ _ i _=>16-(ajZ i).toNat)
 case atStart=>exact⟨0,0,[],aa,rfl,rfl,aa,au,T,F.out.mono au,W.out,X.out,(λg c=>by have:=m g c;omega),F.out.block.2,rfl⟩
 case round=>
  obtain⟨k,z,acc,hk,rfl,rfl,hzk,Um,hK⟩:=hrel;obtain⟨s,G,H,A,Z,k6,b⟩:=hK.out;clear hK T F W X m;by_cases d:k<16
  ·have l:(k:Int)<16:=by omega
   have c1:=G.at k d;rw[An d] at c1;rw[Nn xs d,iw] at b;have ht:=tf k d;generalize gV[k]?.getD 0=t at c1 b ht;have Hy:(t:Int)<16:=aa;have c2:=H.at t ht;generalize xs[t]?.getD 0=x at c2 b;have hzi:(z:Int)<=16:=aa;have dg:=A.size;have K2:=ag G;have K3:=ag H;have K4:=ag A;have C:=ag Z;clear G H A Z;by_cases f:x=0
   ·rw[if_pos f] at b;have I:=ag b;subst f;clear b;go_wp2;go_roundw;case rel=>exact⟨k+1,z+1,acc,aa,aJ,aJ,aa,aa,s,K2.out,K3.out,K4.out,C.out,k6,I.out⟩
    case measure=>exact bj
   ·rw[if_neg f] at b;have I:=ag b;have ra:(x==0)=Ba:=by simp[f]
    clear b;go_wp2_with(at_builtin;refine gh rfl rfl (Gz.gu underlying138) EZ rfl aw aw rfl (s.alloc _) ⟨_,0,ns⟩ [z,x] 1 rfl rfl aa av (λj J=>iK _ [z,x] _ j J) ?_;intro v' w' O2 G2);go_roundw
    case rel=>
     have p:bH u3 (wr.alloc (ap #[U O (z:Int),U O x] 140)) v' w':=G2;have K:=p.size;rw[NO] at K;have L:u3.ownBlock≠an h:=λe=>(C.out h e).2 rfl;refine⟨k+1,0,acc++[((z:Int),x)],aa,aJ,rfl,aa,by simp;omega,by simpa[Fu] using O2,(K2.out.alloc _).other p.bI (.inr λe=>L e.symm),(K3.out.alloc _).eK p λe=>(C.out _ e).1 rfl,(K4.out.alloc _).grown p.bI λg c=>(s.alloc (ap #[U O (z:Int),U O x] 140)).below g c,?_,aa,by rw[ait];exact I.out⟩
     ·intro g c;rcases p.own with e|⟨j,e,J⟩
      ·exact C.out g (e.symm.trans c)
      ·rw[c] at e;injection e with e;simp at J;omega
    case measure=>exact bj
  ·have l:k=16:=by omega
   subst l;rw[List.drop_of_length_le (by rw[Em];omega),iw,List.append_nil] at b;rw[<-b];go_wp2;go_ret;rw[<-b];exact⟨_,rfl,s,A⟩
end
def j6:Nat->aA->Option (List (Int×Int)×aA)
 |0,d=>an ([],d)
 |k+1,d=>
  match(aT 23 d).1,(aT 30 (aT 23 d).2).1 with
  |some z,an l=>
   if 8159<l then ns else
   match j6 k (aT 30 (aT 23 d).2).2 with
   |some (r,b)=>an ((z,aY (l+1))::r,b)
   |none=>ns
  |_,_=>ns
def gJ(d:aA):Option (List Int×aA):=
 match(aT 16 d).1 with
 |some m=>
  if 16<m then ns else
  match j6 m.toNat (aT 16 d).2 with
  |some (r,c)=>(gI r).map λb=>(b,c)
  |none=>ns
 |none=>ns
def lP:Nat->aA->Option (List Int×aA)
 |0,d=>an ([],d)
 |k+1,d=>
  match gJ d with
  |some (b,d1)=>
   match lP k d1 with
   |some (r,d2)=>an (b++r,d2)
   |none=>ns
  |none=>ns
def kM:Nat->aA->Option (List Int×aA)
 |0,d=>an ([],d)
 |k+1,d=>
  match(aT 9 d).1 with
  |some m=>
   if 4<m then ns else
   match kM k (aT 9 d).2 with
   |some (r,d2)=>an (m::r,d2)
   |none=>ns
  |none=>ns
def qK(d:aA):Option (List Int×aA):=
 match(aT 2 d).1,(aT 2 (aT 2 d).2).1 with
 |some x,an y=>if 32<x\/32<y then ns else an ([1,aY x,aY y,0,0,0,0],(aT 2 (aT 2 d).2).2)
 |_,_=>ns
def mO(d:aA):Option (List Int×aA):=(kM 4 d).map λr=>([2,0,0]++r.1,r.2)
def lQ(be:Bool)(d:aA):Option (List Int×aA):=
 if(lM be (d,0)).1=1 then qK (lM be (d,0)).2.1 else mO (lM be (d,0)).2.1
def gL(be:Bool)(d:aA):Option (List Int×aA):=
 if be=Ba/\cV d 0=0 then an (et,bT d 0)
 else match lQ be (iM be (d,0)).1 with
  |some (h,d1)=>(lP 4 d1).map λr=>(h++r.1,r.2)
  |none=>ns
def jD(be:Bool):Nat->aA->Option (List Int)
 |0,_=>an []
 |k+1,d=>
  match gL be d with
  |some (m,d1)=>(jD be k d1).map λr=>m++r
  |none=>ns
def jg(data:List Int)(n:Int)(be:Bool):Option (List Int):=
 if 1<=n/\n<=4 then
  match jD be n.toNat (eJ data) with
  |none=>ns
  |some xs=>if(dO be xs n.toNat).getD []=data.map ks then an xs else ns
 else ns
def sN(b:Nat){s:bF}(h:s.2≠0):(bD b s).2.2≠0:=by
 unfold bD;split
 ·simp
 ·exact h
def vt:∀(k:Nat){s:bF},s.2≠0->(eQ k s).2.2≠0
 |0,_,h=>h
 |k+1,_,h=>vt k (sN 30 (sN 23 h))
def XG{s:bF}(h:s.2≠0):(ir s).2.2≠0:=by
 have:=vt (min (bD 16 s).1 17).toNat (sN 16 h);unfold ir;dsimp only;split
 ·omega
 ·simp_all
def Ep:∀(k:Nat){s:bF},s.2≠0->(fc k s).2.2≠0
 |0,_,h=>h
 |k+1,_,h=>Ep k (XG h)
def No:∀(k:Nat){s:bF},s.2≠0->(hU k s).2.2≠0
 |0,_,h=>h
 |k+1,_,h=>No k (sN 9 h)
def su{b:Nat}{d:aA}{n:Int}(h:(aT b d).1=an n)(e:Nat):bD b (d,e)=(n,((aT b d).2,e)):=by
 unfold bD;split<;>rename_i x y<;>rw[y] at h<;>cases h
 rw[y]
def sw{b:Nat}{d:aA}(h:(aT b d).1=ns)(e:Nat):(bD b (d,e)).2.2≠0:=by
 unfold bD;split
 ·simp
 ·simp_all
def Zz{l:Int}(h:0<=l)(k:l<=8159): -4080<=aY (l+1)/\aY (l+1)<=4080:=by
 unfold aY;split
 ·omega
 ·omega
def acz{l:Int}(h:8159<l)(k:l<=65534):aY (l+1)=0\/¬(-4080<=aY (l+1)/\aY (l+1)<=4080):=by
 unfold aY;split
 ·omega
 ·omega
def N8:∀(k:Nat)(d:aA),
  (∃r e,j6 k d=an (r,e)/\eQ k (d,0)=(r,(e,0))/\∀p∈r,-4080<=p.2/\p.2<=4080)\/
  (j6 k d=ns/\((eQ k (d,0)).2.2≠0\/∃p∈(eQ k (d,0)).1,p.2=0\/¬(-4080<=p.2/\p.2<=4080)))
 |0,d=>.inl ⟨[],d,rfl,rfl,λ_ h=>by simp at h⟩
 |k+1,d=>by
  rw[j6,eQ];dsimp only;cases i:(aT 23 d).1 with
  |none=>exact .inr ⟨rfl,.inl (vt k (sN 30 (sw i 0)))⟩
  |some z=>
   rw[su i 0];dsimp only;generalize j:(aT 23 d).2=d1;cases f:(aT 30 d1).1 with
   |none=>exact .inr ⟨rfl,.inl (vt k (sw f 0))⟩
   |some l=>
    rw[su f 0];have b:=jW f;dsimp only;generalize(aT 30 d1).2=d2;by_cases g:8159<l
    ·rw[if_pos g];exact .inr ⟨rfl,.inr ⟨_,nd ..,acz g b.2⟩⟩
    ·rw[if_neg g];rcases N8 k d2 with⟨r,e,h1,c,m⟩|⟨h1,c⟩
     ·rw[h1,c];refine .inl ⟨_,_,rfl,rfl,?_⟩;intro p hp;rcases mA.1 hp with rfl|hp
      ·exact Zz b.1 aa
      ·exact m p hp
     ·rw[h1];refine .inr ⟨rfl,?_⟩;rcases c with c|⟨p,hp,c⟩
      ·exact .inl c
      ·exact .inr ⟨p,oy _ hp,c⟩
def acA:∀i,i<16->∀j,j<16->gV[i]?.getD 0=gV[j]?.getD 0->i=j:=aw
def Np:∀(rs:List (Int×Int))(b:List Int)(p:Nat){c:List Int},b.length=16->fP rs b p=an c->∀j,j<p->j<16->c[gV[j]?.getD 0]?.getD 0=b[gV[j]?.getD 0]?.getD 0
 |[],b,p,c,_,h,_,_,_=>by simp[fP] at h;rw[h]
 |(z,l)::r,b,p,c,f,h,j,g,d=>by
  rw[fP] at h;split at h
  ·cases h
  ·rename_i i;rw[Np r _ _ (by simp[f]) h j aa d];rw[List.getElem?_set_ne];intro e;have:=acA (p+z.toNat) aa j d e;omega
def Pp:∀(rs:List (Int×Int))(b:List Int)(p:Nat){c:List Int},b.length=16->fP rs b p=an c->∀q∈rs,q.2≠0/\∃j,j<16/\c[j]?.getD 0=q.2
 |[],b,p,c,_,h,q,hq=>by simp at hq
 |(z,l)::r,b,p,c,d,h,q,hq=>by
  rw[fP] at h;split at h
  ·cases h
  ·rename_i f;rcases mA.1 hq with rfl|hq
   ·refine⟨λe=>f (.inl e),gV[p+z.toNat]?.getD 0,tf _ aa,?_⟩;rw[Np r _ _ (by simp[d]) h (p+z.toNat) aa aa];have:=tf (p+z.toNat) aa;rw[List.getElem?_set_self aa];rfl
   ·exact Pp r _ _ (by simp[d]) h q hq
def Qn(M:Int):∀(rs:List (Int×Int))(b:List Int)(p:Nat){c:List Int},fP rs b p=an c->aW b M=AT->(∀q∈rs,-M<=q.2/\q.2<=M)->aW c M=AT
 |[],b,p,c,h,d,_=>by simp[fP] at h;rw[<-h];exact d
 |(z,l)::r,b,p,c,h,d,hq=>by
  rw[fP] at h;split at h
  ·cases h
  ·refine Qn M r _ _ h ?_ λq e=>hq q (oy _ e);refine gW.2 λx f=>?_;rcases List.mem_or_eq_of_mem_set f with f|rfl
   ·exact gW.1 d x f
   ·exact decide_eq_true (hq (z,x) (nd ..))
def adY{M:Int}(j:Nat)(b:j<xs.length)(h:¬(-M<=xs[j]?.getD 0/\xs[j]?.getD 0<=M)):aW xs M=Ba:=by
 cases e:aW xs M with
 |false=>rfl
 |true=>have:=gW.1 e (xs[j]?.getD 0) (by rw[List.getElem?_eq_getElem b];exact pM b);exact absurd (of_decide_eq_true this) h
theorem XH(d:aA):
  (∃b f,gJ d=an (b,f)/\ir (d,0)=(b,(f,0))/\aW b 4080=AT)\/
  (gJ d=ns/\((ir (d,0)).2.2≠0\/aW (ir (d,0)).1 4080=Ba)):=by
 unfold gJ;cases hm:(aT 16 d).1 with
 |none=>
  refine .inr ⟨rfl,.inl ?_⟩;have:=vt (min (bD 16 (d,0)).1 17).toNat (sw hm 0);unfold ir;dsimp only;generalize eQ (min (bD 16 (d,0)).1 17).toNat (bD 16 (d,0)).2=r at this⊢;split
  ·exact this
  ·show(if r.2.2=0 then 2 else r.2.2)≠0;rw[if_neg this];exact this
 |some m=>
  unfold ir;rw[su hm 0];dsimp only;generalize(aT 16 d).2=d1;by_cases e:16<m
  ·rw[if_pos e];refine .inr ⟨rfl,.inl ?_⟩;rw[show(min m 17).toNat=17 by omega];have h:=NZ 17 (d1,0);generalize eQ 17 (d1,0)=r at h⊢;have i:gI r.1=ns:=NY _ _ _ aa aa;rw[i];show(if r.2.2=0 then 2 else r.2.2)≠0;split
   ·decide
   ·assumption
  ·rw[if_neg e,show(min m 17).toNat=m.toNat by omega];rcases N8 m.toNat d1 with⟨r,f,h1,c,l⟩|⟨h1,c⟩
   ·rw[h1,c];dsimp only;cases g:gI r with|none=>simp|some b=>exact .inl ⟨b,f,rfl,rfl,Qn 4080 r _ _ g aw l⟩
   ·rw[h1];refine .inr ⟨rfl,?_⟩;generalize eQ m.toNat (d1,0)=r at c⊢;cases g:gI r.1 with
    |none=>grind
    |some b=>
     rcases c with c|⟨p,q,c⟩
     ·exact .inl c
     ·right
      obtain⟨s,j,u,z⟩:=Pp r.1 _ _ aC g p q;refine adY j (by rw[zl g];exact u) ?_;rw[z];rcases c with c|c
      ·exact absurd c s
      ·exact c
def nB(xs b:List Int)(M:Int):aW (xs++b) M=(aW xs M&&aW b M):=by simp[aW]
def N9:∀(k:Nat)(d:aA),
  (∃b f,lP k d=an (b,f)/\fc k (d,0)=(b,(f,0))/\aW b 4080=AT)\/
  (lP k d=ns/\((fc k (d,0)).2.2≠0\/aW (fc k (d,0)).1 4080=Ba))
 |0,d=>.inl ⟨[],d,rfl,rfl,rfl⟩
 |k+1,d=>by
  rw[lP,fc];dsimp only;rcases XH d with⟨b,f,h1,c,h⟩|⟨h1,c⟩
  ·rw[h1,c];dsimp only;rcases N9 k f with⟨r,d2,g,e,i⟩|⟨g,e⟩
   ·rw[g,e];exact .inl ⟨_,_,rfl,rfl,by rw[nB,h,i];rfl⟩
   ·rw[g];refine .inr ⟨rfl,?_⟩;rcases e with e|e
    ·exact .inl e
    ·exact .inr (by rw[nB,e,akJ])
  ·rw[h1];refine .inr ⟨rfl,?_⟩;rcases c with c|c
   ·exact .inl (Ep k c)
   ·exact .inr (by rw[nB,c,akG])
def Nq:∀(k:Nat)(d:aA),
  (∃b f,kM k d=an (b,f)/\hU k (d,0)=(b,(f,0))/\(b.all λx=>decide (0<=x/\x<=4))=AT)\/
  (kM k d=ns/\((hU k (d,0)).2.2≠0\/((hU k (d,0)).1.all λx=>decide (0<=x/\x<=4))=Ba))
 |0,d=>.inl ⟨[],d,rfl,rfl,rfl⟩
 |k+1,d=>by
  rw[kM,hU];dsimp only;cases hm:(aT 9 d).1 with
  |none=>exact .inr ⟨rfl,.inl (No k (sw hm 0))⟩
  |some m=>
   rw[su hm 0];have h:=jW hm;dsimp only;generalize(aT 9 d).2=d1;by_cases g:4<m
   ·rw[if_pos g];refine .inr ⟨rfl,.inr ?_⟩;rw[List.all_cons,decide_eq_false aa,akG]
   ·rw[if_neg g];rcases Nq k d1 with⟨r,d2,e,c,i⟩|⟨e,c⟩
    ·rw[e,c];exact .inl ⟨_,_,rfl,rfl,by rw[List.all_cons,i,decide_eq_true aa];rfl⟩
    ·rw[e];refine .inr ⟨rfl,?_⟩;rcases c with c|c
     ·exact .inl c
     ·exact .inr (by rw[List.all_cons,c,akJ])
end Go.Proofs.Q0
