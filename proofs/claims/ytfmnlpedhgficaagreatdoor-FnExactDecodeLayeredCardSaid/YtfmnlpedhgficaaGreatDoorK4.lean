import Derived.Test.YtfmnlpedhgficaaGreatDoorK3
set_option maxRecDepth 100000
set_option maxHeartbeats 8000000
set_option linter.all false
open Go.Value renaming int->U,slice->Y,bool->a5,agg->a9,pointer->bi,tuple->ci,iface->em
open Go.IntKind renaming i64->O
open Go.Obj renaming cells->ac
open Go.Ending renaming returned->be
open Bool renaming and_false->ama,false->Bz,false_and->alX,true->AT
open Go renaming Addr->ajF,Calls->aiK,TypeId->TO,Value->so,World->AS,bodyPost_ret->ajz,wpList->ajU
open Go.RowKit renaming intOf->alq
open Go.World renaming size_alloc->OF
open List renaming append_assoc->ajH,range->ajv,range_succ->akq
open Nat renaming shiftRight_eq_div_pow->alS
open Option renaming none->ns,some->an
namespace Go.Proofs
def rT{p:Prop}(h:p:=by first|exact Nat.le_refl _|omega|(simp;done)|(simp;omega)):p:=h
abbrev vA:=@Go.World.cell?_alloc_new
def Kw{p:Prop}(h:p:=by
  clear i9 hy hc;go_wp2_with(first|(go_at_call 14;(with_reducible refine(bZ _ HA).mono ?_);rintro e w'⟨rfl,rfl⟩)|(at_builtin;refine uS rfl rfl w w.heap.size rfl (ip.alloc _) ⟨_,0,none⟩ rfl rT rT rT (li.alloc _) (vA _ _ _ _) ?_;intro v' w' ho3 hq3 ra _;skip));go_roundw;case rel=>exact⟨k+1,n+1,aa,aF,by rw[EQ.out];exact ho3,hq3⟩
  case measure=>simp[intOf];omega):p:=h
def Ky{p:Prop}(h:p:=by
  clear i9 hy hc;go_wp2_with(first|(go_at_call 14;(with_reducible refine(bZ _ HA).mono ?_);rintro e w'⟨rfl,rfl⟩));go_roundw;case rel=>exact⟨k+1,n,aa,aF,by rw[EQ.out];exact ip,li⟩
  case measure=>simp[intOf];omega):p:=h
def Kz{p:Prop}(h:p:=by
  rcases ip.dE with⟨_,h0⟩|⟨g,c,rfl,_⟩
  ·omega
  ·go_wp2;go_ret;exact⟨g,c,rfl,ip,li⟩):p:=h
def Mm{p:Prop}(h:p:=by clear h2;clear F';go_wp2_with(first|(go_at_call 14;(with_reducible refine(bZ _ HA).mono ?_);rintro e w'⟨rfl,rfl⟩)|(refine dx (n:=16) rfl _ _ _ rfl _ rfl _ cZ rfl aG rfl cN ?_;intro w9 b9 g9 s9));refine bodyPost_ret (kV aD aD b9.blk (Gz.gu underlying94) rfl CY) rfl ⟨?_,KQ.out.grown g9 λk e=>by have:=aJ e;omega⟩;rw[HL.out];rfl):p:=h
abbrev nB:=@List.mem_cons_self
abbrev jH:=@List.mem_cons
abbrev pP:=@List.mem_cons_of_mem
end Go.Proofs
namespace Go.Proofs.Q0
open Go.Proofs.Tryz
variable{k n B:Nat}{w:AS}{xs:List Int}{t:TO}{x y:Operand}{Q':Exit->Act->AS->Prop}{a:Act}{o:Oper}{rest:List Oper}{ops:Array Oper}{P:Program}
section
open Go.RowKit Go.WideShapes Go.ChangeShapes
def qx(acc:List Int)(x:Option (List Int)×Nat):Option (List Int)×Nat:=(x.1.map (acc++ ·),x.2)
def YD(ap:Bool)(k:Nat)(s:bw):eR ap (k+1) s=if(dX ap s).2.2≠0 then(ns,(dX ap s).2.2) else qx (dX ap s).1 (eR ap k (dX ap s).2):=by
 rw[eR];split
 ·rfl
 ·generalize eR ap k (dX ap s).2=z;obtain⟨b,c⟩:=z;cases b<;>rfl
def aaw(a b:List Int)(x:Option (List Int)×Nat):qx a (qx b x)=qx (a++b) x:=by obtain⟨c,d⟩:=x;cases c<;>simp[qx]
def Fv(R:Option (List Int)×Nat)(n:Nat)(w:AS)(b c:ajF)(e:Ending)(w':AS):Prop:=
  (match R with
   |(an L,_)=>∃v,e=be (ci #[v,.nilIface])∧ay 97 71 w' w.heap.size v n L
   |(ns,k)=>k≠0∧e=be (ci #[Y ns 0 0,lz b c k]))∧Q w w'
def ay.mono{t:TO}{s:Nat}{w:AS}{B B' n:Nat}{v:so}{xs:List Int}(h:ay t s w B v n xs)(b:B'<=B):ay t s w B' v n xs:=by exact Dl
def abT(b c:ajF)(h:k≠0):∃a,lz b c k=em 240 (bi (an a)):=by
 by_cases h1:k=1
 ·exact⟨b,by rw[h1];rfl⟩
 ·obtain⟨n,d⟩:∃n,k=n+2:=⟨k-2,aa⟩;exact⟨c,by rw[d];rfl⟩
def aax{A:Option ajF}{c:Nat}(m:Nat){C D:ajF}(ap:Bool)(H:bB w B A xs)(hn:xs.length=n)(hc:n<=c/\c<=maxLen)(hB:B<=w.heap.size)(he:gw w C D B)(hm:m<=4):
  aiK Gz.prog 114 #[Y A n c,U O (m:Int),a5 ap] w (Fv (eR ap m (eG xs,0)) m w C D):=by
 go_enter Gz.gf func114,ntmps114;go_wp2;refine(XG H hn hc hB).mono ?_;rintro e E⟨g,rfl,hg,⟨A1,c1,d1⟩,q1⟩;go_wp2;have pm:=q1.size;have ahm:=d1.lt
 have L:RB (E.alloc (ac #[bi (an ⟨g,0,ns⟩),.nilIface] 184)) E.heap.size g (eG xs,0) C D B A1 c1:=
  ⟨ak.new _ _ _,d1.q ((Q.refl _).alloc _),aa,aa,(he.q q1 hB).q ((Q.refl _).alloc _) aa⟩
 have qq:Q w (E.alloc (ac #[bi (an ⟨g,0,ns⟩),.nilIface] 184)):=q1.alloc _;have f:E.heap.size<(E.alloc (ac #[bi (an ⟨g,0,ns⟩),.nilIface] 184)).heap.size:=aj;generalize E.alloc (ac #[bi (an ⟨g,0,ns⟩),.nilIface] 184)=w2 at L qq f⊢;obtain⟨r,hr⟩:∃r,E.heap.size=r:=⟨_,rfl⟩;rw[hr] at L pm f;rw[hr];have o0:=ay.nil 97 71 w2 (r+1);have IF:g<r:=aa;have M:=Fp xs;obtain⟨s0,h⟩:∃z:bw,(eG xs,0)=z:=⟨_,rfl⟩;have N:s0.2=0:=by rw[<-h]
 have S:bT s0.1:=by rw[<-h];exact M
 rw[h] at L;rw[h];obtain⟨R,d⟩:∃z,eR ap m s0=z:=⟨_,rfl⟩;have HRR:=af d;have HSR:Hid (eR ap m (eG xs,0)=R):=by rw[h];exact d
 rw[d];clear hr H q1 d1 hn h M d he;have hm4:(m:Int)<=4:=aa;go_loopw[9,14] (λv i wr=>∃(k:Nat)(acc:List Int)(s:bw)(A':Option ajF)(c':Nat),k<=m/\i=U O k/\Hid (RB wr r g s C D B A' c'/\s.2=0/\bT s.1/\ay 97 71 wr (r+1) v k acc/\Q w wr/\r<wr.heap.size/\R=qx acc (eR ap (m-k) s))) (λ_ i _=>m-(alq i).toNat)
 case atStart=>exact⟨0,[],s0,A1,c1,aa,rfl,L,N,S,o0,qq,f,by rw[Nat.sub_zero,HRR.out];obtain⟨z1,z2⟩:=R;cases z1<;>rfl⟩
 case round=>
  obtain⟨k,acc,s,A',c',hk,rfl,hK⟩:=hrel;obtain⟨k1,k2,k3,k4,k5,k6,p⟩:=hK.out;clear hK L o0 qq f S;by_cases aV:k<m
  ·have T:(k:Int)<(m:Int):=by omega
   obtain⟨j,V⟩:∃j,m-(k+1)=j:=⟨_,rfl⟩;rw[show m-k=j+1 by omega,YD] at p;have hL:=afe ap k1 k3;have W:=aau ap k3;have X:=Eu ap s;go_wp2;refine hL.mono ?_;rintro e w5⟨rfl,⟨A5,c5,h5⟩,x5⟩;clear hL;generalize(dX ap s).1=l at X p⊢;generalize(dX ap s).2=Z at h5 W p;have I:=k4.az x5 (λx H=>by simp at H;omega);have y5:=x5.toQ k5 (λx H=>by simp at H;omega);have y6:r<w5.heap.size:=by have:=x5.size;omega
   have u:(arr l).size=71:=by rw[bQ,X]
   have H5:=af h5;have Y5:=af y5;have K7:=af p;clear k1 k4 k5 k6 p x5 h5 y5 k3;by_cases J:Z.2=0
   ·have ce:∀w',RB w' r g Z C D B A5 c5->w'.cell? ⟨r,1,ns⟩=an .nilIface:=λw' h'=>by have:=h'.err;rw[J] at this;exact this
    have CE:=af ce;clear ce;go_wp2_with(first|(refine Dg rfl rfl (Gz.gu underlying63) (arr l) rfl (by rw[u];exact fK) ah aa aa ?_)|(at_builtin;refine yU rfl rfl (Gz.gu underlying63) Ek ah al al rfl (I.alloc _) ⟨_,0,ns⟩ l 1 rfl aa aa aA (λj V=>ji _ l _ j V) ?_;intro v' w' O2 K;have F:=(H5.out.q ((Q.refl w5).alloc (ac (arr l) 97))).app K (I.alloc _) aa aa (by have:=H5.out.le;omega);have c6:=CE.out _ F;have H6:=af F;clear F));go_roundw
    case rel=>
     refine⟨k+1,acc++l,Z,A5,c5,aa,aF,H6.out,J,W,O2,(Y5.out.alloc _).grown K λb hb=>?_,?_,?_⟩
     ·have IB:=(I.alloc (ac (arr l) 97)).below b hb;have:=Y5.out.size;omega
     ·have:=K.size;simp at this;omega
     ·rw[V,K7.out,if_neg (by simpa using J),aaw]
    case measure=>exact aT
   ·obtain⟨ae,G⟩:=abT C D J;have ce:∀w',RB w' r g Z C D B A5 c5->w'.cell? ⟨r,1,ns⟩=an (em 240 (bi (an ae))):=λw' h'=>by have:=h'.err;rw[G] at this;exact this
    have CE:=af ce;have HAE:=af G;clear ce G;go_wp2_with(first|(refine Dg rfl rfl (Gz.gu underlying63) (arr l) rfl (by rw[u];exact fK) ah aa aa ?_)|(at_builtin;refine yU rfl rfl (Gz.gu underlying63) Ek ah al al rfl (I.alloc _) ⟨_,0,ns⟩ l 1 rfl aa aa aA (λj V=>ji _ l _ j V) ?_;intro v' w' O2 K;have F:=(H5.out.q ((Q.refl w5).alloc (ac (arr l) 97))).app K (I.alloc _) aa aa (by have:=H5.out.le;omega);have c6:=CE.out _ F;have H6:=af F;clear F))
    go_quiet(fail)
    go_wp2;have d:R=(ns,Z.2):=by rw[K7.out,if_pos J];rfl
    refine ajz (v:=ci #[Y ns 0 0,em 240 (bi (an ae))]) (by simp[results,results114,go_sem]) rfl ?_;unfold Fv;rw[d];refine⟨⟨J,by rw[HAE.out]⟩,((Y5.out.alloc _).grown K λb hb=>?_).drewN _⟩;have IB:=(I.alloc (ac (arr l) 97)).below b hb;have:=Y5.out.size;omega
  ·have T:k=m:=by omega
   subst T;rw[Nat.sub_self,eR] at p;have d:R=(an acc,s.2):=by rw[p];simp[qx]
   clear p;go_wp2;refine ajz (v:=ci #[u9,.nilIface]) (by simp[results,results114,go_sem]) rfl ?_;unfold Fv
   first
    |rw[d]
    |rw[HSR.out,d]
   exact⟨⟨_,rfl,k4.mono aa⟩,k5⟩
end
section
open Go.RowKit Go.WideShapes Go.ChangeShapes
structure bD(v:so)(w:AS)(v':so)(w':AS):Prop where
 bJ:w.grownBy w' v.ownBlock
 own:v'.ownBlock=v.ownBlock\/∃k,v'.ownBlock=an k/\w.heap.size<=k
section
variable{v v' U5:so}{w w' WF:AS}
def bD.refl(v:so)(w:AS):bD v w v w:=⟨⟨rfl,rfl,rfl,av _,λ_ _ _=>rfl⟩,.inl rfl⟩
theorem bD.trans(h:bD v w v' w')(k:bD v' w' U5 WF):bD v w U5 WF:=by
 refine⟨⟨k.bJ.os.trans h.bJ.os,k.bJ.tape.trans h.bJ.tape,k.bJ.output.trans h.bJ.output,aI h.bJ.size k.bJ.size,λi hi c=>?_⟩,?_⟩
 ·refine(k.bJ.block i (bH hi h.bJ.size) λe=>?_).trans (h.bJ.block i hi c);rcases h.own with h1|⟨j,h1,d⟩
  ·simp_all
  ·grind
 ·rcases k.own with b|⟨j,b,f⟩
  ·rcases h.own with h1|⟨j,h1,d⟩
   ·simp_all
   ·simp_all
  ·exact .inr ⟨j,b,aI h.bJ.size f⟩
def bD.U6(v:so)(h:Q w w'):bD v w v w':=⟨⟨h.os,h.tape,h.output,h.size,λi hi _=>h.block i hi⟩,.inl rfl⟩
def bD.q(h:bD v w v' w')(k:Q w' WF):bD v w v' WF:=h.trans (.U6 v' k)
def bD.size(h:bD v w v' w'):w.heap.size<=w'.heap.size:=h.bJ.size
def bD.toQ{a:AS}(h:bD v w v' w')(hq:Q a w)(b:∀k,v.ownBlock=an k->a.heap.size<=k):Q a w':=hq.grown h.bJ b
def bD.az{S:List Nat}{a:AS}(h:bD v w v' w')(b:au S a w)(c:∀k,v.ownBlock=an k->k∈S\/a.heap.size<=k):au S a w':=b.Gm h.bJ c
def bD.set(h:bD v w v' w'){p:ajF}(c:w.heap.size<=p.block)(u:so):bD v w v' (w'.setCell p u):=
 ⟨⟨h.bJ.os,h.bJ.tape,h.bJ.output,by simpa[World.setCell] using h.bJ.size,λi hi b=>(jh w' p u i aa).trans (h.bJ.block i hi b)⟩,h.own⟩
def Nb.eJ{g:Nat}(k:Nb t n w g xs)(h:bD v w v' w')(b:v.ownBlock≠an g):Nb t n w' g xs:=k.grown h.bJ (λe=>b e.symm)
def ak.eJ{g:Nat}{cs:Array so}(k:ak w g t cs)(h:bD v w v' w')(b:v.ownBlock≠an g):ak w' g t cs:=k.grown h.bJ (λe=>b e.symm)
end
theorem gi{s:Nat}{v:so}(f:o.guard=ns){st:TO}(u:o.op=.call {callee:=.builtin .append,args:=#[x,y],argTypes:=#[st,st]})
  (hu:P.underlying st=an (.slice t)){z:so}{d:Nat}(e:(P.info? t).map (λi=>(i.zero,i.size,i.bytes))=an (an z,s,d))(A:z.cells.size=s)(C:0<s)(g:d<=1000)
  (D:a.eval x=v)(b:ay t s w B v n xs)(ad:ajF)(ys:List Int)(m:Nat){c:Nat}(E:a.eval y=Y (an ad) m c)(r:ys.length=m*s)
  (F:n+m<=1000000000)(l:B<=w.heap.size)(hc:∀j,j<ys.length->w.cell? (ad.add j)=an (U O (ys[j]?.getD 0)))
  (h:∀v' w',ay t s w' B v' (n+m) (xs++ys)->bD v w v' w'->ajU P ops Q' rest (a.put o.dst v') w'):ajU P ops Q' (o::rest) a w:=by
 obtain⟨i0,hi,p,hz1,hz2⟩:=info_parts e;refine wpList_append_own_at _ f x y st u B t i0 z s d hu hi p hz1 hz2 A C v n _ D b.2 ad m c (ys.map (Value.int .i64)) E (by rw[List.length_map];exact r) ?_ ?_ ?_ ?_ l ?_
 ·grind
 ·exact Du
 ·unfold maxLen;omega
 ·exact aI (gj F g) al
 ·intro v' w' h1 G _ q;refine h v' w' ⟨by rw[List.length_append,b.1,r,Nat.add_mul],by simpa using h1⟩ ⟨G,?_⟩;rcases q with q|q
  ·simp_all
  ·simp_all
def Ob(b:o.guard=ns){c:TO}(d:o.op=.binOp .shr t x y c){X:Int}{i:Nat}(f:a.eval x=U O X)(g:a.eval y=U O (i:Int))(hi:i<=60){V:Int}(j:X/2^i=V)
  (h:ajU P ops Q' rest (a.put o.dst (U O V)) w):ajU P ops Q' (o::rest) a w:=by
 refine wpList_plain b λK hK=>?_;have e:Op.shift .shr .i64 X .i64 (i:Int)=pure (U O V):=eY;unfold Oper.wp execOp;simp only[d,f,g,eqGuard_shr,binOp_shr,e,Sem.run_bind,Sem.run_pure,Result.andThen_ok];exact hK _ _ h
def Oc(b:o.guard=ns){c:TO}(d:o.op=.binOp .shl t x y c){X:Int}{i:Nat}(f:a.eval x=U O X)(g:a.eval y=U O (i:Int))(hi:i<=60){V:Int}(j:IntKind.i64.wrap (X*2^i)=V)
  (h:ajU P ops Q' rest (a.put o.dst (U O V)) w):ajU P ops Q' (o::rest) a w:=by
 refine wpList_plain b λK hK=>?_;have e:Op.shift .shl .i64 X .i64 (i:Int)=pure (U O V):=eY;unfold Oper.wp execOp;simp only[d,f,g,eqGuard_shl,binOp_shl,e,Sem.run_bind,Sem.run_pure,Result.andThen_ok];exact hK _ _ h
def Rc(M i:Nat):(M:Int)/2^i=((M>>>i:Nat):Int):=by rw[alS];simp
def adH(n:Nat)(h:n<9223372036854775808):bits .and .i64 (n:Int) 1=((n%2:Nat):Int):=by have:=bits_mask .i64 63 al (λn h0 h1=>aB _ ⟨aa,aa⟩) 1 al (n:Int) aa aa;simpa using this
end
section
open Go.RowKit Go.WideShapes Go.ChangeShapes
def ss{v:so}(n:Int)(b:Nat){m:Nat}(B:Nat){D:List Int}(ho:ay 164 2 w B v m D)(hB:B<=w.heap.size)(h0:0<=n)(h1:n<=65533)(hb:b<=33)(hm:m<=100000000):
  aiK Gz.prog 171 #[v,U O n,U O (b:Int)] w λe w'=>∃v',e=be v'/\ay 164 2 w' B v' (m+dN n) (D++dn n b)/\bD v w v' w':=by
 have Z:∀w,aiK Gz.prog 190 #[.int .u64 (n+1)] w λe w'=>e=be (U O (Lib.bitLen (n+1).toNat))/\w=w':=λw=>(bitsLen (n+1) w aa aa).mono λ_ _ h=>⟨h.1,h.2.symm⟩;obtain⟨M,W⟩:∃M:Nat,(n+1).toNat=M:=⟨_,rfl⟩;have IE:n+1=(M:Int):=aa;have p:=Zo M aa aa;obtain⟨k,G⟩:∃k,M.log2=k:=⟨_,rfl⟩
 have ahn:k<=15:=by
  have:k<16:=by rw[<-G];exact(Nat.log2_lt (by omega)).2 (by omega)
  omega
 have H:dn n b=jZ b k (k+1)++lK b M k k:=by unfold dn;rw[W,G]
 have I:dN n=2*k+1:=by unfold dN;rw[W,G]
 rw[W,p,G,IE,show((k+1:Nat):Int)=(k:Int)+1 by omega] at Z;have IG:=af H;have IH:=af I;have HL:=af Z;have wc:IntKind.u64.wrap (n+1)=n+1:=u64_in aa aa;have wn:wrap64 (n+1)=n+1:=ix ⟨aa,aa⟩;have i6:(k:Int)<=15:=aa;clear W p H I Z G;go_enter Gz.gf func171,ntmps171;go_wp2;refine(HL.out _).mono ?_;rintro e w'⟨rfl,rfl⟩;go_wp2;go_loopw[0,18] (λu i wr=>∃j:Nat,j<=k+1/\i=U O j/\Hid (ay 164 2 wr B u (m+j) (D++jZ b k j)/\bD v w u wr)) (λ_ i _=>k+1-(alq i).toNat)
 case atStart=>exact⟨0,aa,rfl,by simpa[jZ] using ho,bD.refl _ _⟩
 case round=>
  obtain⟨j,E,rfl,hK⟩:=hrel;obtain⟨r,f⟩:=hK.out;clear hK ho;have cM:=f.size;by_cases aV:j<k+1
  ·have tZ:(j:Int)<(k:Int)+1:=by omega
   have J:((b:Int)+min (j:Int) 5)=(b:Int)+((min j 5:Nat):Int):=aa;have c:=Fs b k j;obtain⟨q,hq⟩:∃q,(b:Int)+((min j 5:Nat):Int)=q:=⟨_,rfl⟩;rw[hq] at J c;clear hq;by_cases d:j=k
   ·subst d;rw[if_pos rfl] at c;have s:=af c;clear c;go_wp2_with(at_builtin;refine gi rfl rfl (Gz.gu underlying128) ie rfl al al rfl (r.alloc _) ⟨_,0,ns⟩ [q,0] 1 rfl rfl aa aA (λj E=>ji _ [q,0] _ j E) ?_;intro v' w' K L);go_roundw;case rel=>exact⟨j+1,aa,aF,by rw[s.out,<-ajH];exact K,(f.q ((Q.refl wr).alloc _)).trans L⟩
    case measure=>simp[alq]
   ·rw[if_neg d] at c;have hjb:((j:Int)==(k:Int))=Bz:=aA;have s:=af c;clear c d;go_wp2_with(at_builtin;refine gi rfl rfl (Gz.gu underlying128) ie rfl al al rfl (r.alloc _) ⟨_,0,ns⟩ [q,1] 1 rfl rfl aa aA (λj E=>ji _ [q,1] _ j E) ?_;intro v' w' K L);go_roundw;case rel=>exact⟨j+1,aa,aF,by rw[s.out,<-ajH];exact K,(f.q ((Q.refl wr).alloc _)).trans L⟩
    case measure=>exact aT
  ·have d:j=k+1:=by omega
   rw[d] at r;have tZ:¬(j:Int)<(k:Int)+1:=aa;clear d;have wk:wrap64 ((k:Int)-1)=(k:Int)-1:=ix ⟨aa,aa⟩;have N:=af r;have R:=af f;clear r f;go_wp2;go_loopw[0,10] (λu i wr=>∃t:Nat,t<=k/\i=U O ((k:Int)-1-(t:Int))/\Hid (ay 164 2 wr B u (m+(k+1)+t) (D++jZ b k (k+1)++lK b M k t)/\bD v w u wr)) (λ_ i _=>(alq i+1).toNat)
   case atStart=>exact⟨0,aa,aj,by simpa[lK] using N.out,R.out⟩
   case round=>
    obtain⟨t,ht,rfl,hK⟩:=hrel;obtain⟨r,f⟩:=hK.out;clear hK N R;have cM:=f.size;by_cases aV:t<k
    ·have A:=Ft b M k t;obtain⟨i,hi⟩:∃i,k-1-t=i:=⟨_,rfl⟩;have C:(k:Int)-1-(t:Int)=(i:Int):=aa;rw[hi] at A;have g:=af A;clear A;rw[C];have II:=af C;clear C;have aho:(i:Int)<15:=aa;have aiR:(M:Int)<65536:=aa;obtain⟨F,l⟩:∃F:Nat,M>>>i=F:=⟨_,rfl⟩;have hV:(M:Int)/2^i=(F:Int):=by rw[Rc,l]
     have S:F<=M:=by rw[<-l,alS];exact Nat.div_le_self ..
     have T:=adH F aa;rw[l] at g;obtain⟨bt,V⟩:∃z:Int,((F%2:Nat):Int)=z:=⟨_,rfl⟩;rw[V] at T g;have X:=af hV;clear hV l V S;obtain⟨q,hq⟩:∃q,(b:Int)+6=q:=⟨_,rfl⟩;rw[hq] at g;go_wp2_with(first|(refine Ob rfl rfl rfl rfl aa X.out ?_)|(at_builtin;refine gi rfl rfl (Gz.gu underlying128) ie rfl al al rfl (r.alloc _) ⟨_,0,ns⟩ [q,bt] 1 rfl rfl aa aA (λj E=>ji _ [q,bt] _ j E) ?_;intro v' w' K L));go_roundw;case rel=>exact⟨t+1,aa,by have:=II.out;go_num,by rw[g.out,<-ajH];exact K,(f.q ((Q.refl wr).alloc _)).trans L⟩
     case measure=>simp[alq]
    ·have IJ:t=k:=by omega
     subst IJ;have X:=IG.out;have HC:=IH.out;have HNV:Hid (D++dn n b=D++jZ b t (t+1)++lK b M t t):=by rw[Hid,X,ajH]
     have IK:Hid (m+dN n=m+(t+1)+t):=by rw[Hid,HC];omega
     clear X HC;go_wp2;go_ret;refine⟨_,rfl,?_,f⟩;rw[HNV.out,IK.out];exact r
end
section
open Go.RowKit Go.WideShapes Go.ChangeShapes
def sD(n:Int)(b:Nat)(w:AS)(h0:0<=n)(h1:n<=65533)(hb:b<=33):
  aiK Gz.prog 129 #[U O n,U O (b:Int)] w λe w'=>∃v',e=be v'/\ay 164 2 w' w.heap.size v' (dN n) (dn n b)/\Q w w':=by
 obtain⟨M,hM⟩:∃M:Nat,(n+1).toNat=M:=⟨_,rfl⟩;have IE:n+1=(M:Int):=aa;have F:M≠0:=aa;have hM6:M<=65534:=aa;obtain⟨k,hk⟩:∃k,M.log2=k:=⟨_,rfl⟩
 have ahn:k<=15:=by
  have:k<16:=by rw[<-hk];exact(Nat.log2_lt F).2 (by omega)
  omega
 have C:∀j,(j<k->(2:Int)*2^j<=(M:Int))/\(j=k->(M:Int)<2*2^j):=by
  intro j;have e:(2:Int)*2^j=((2^(j+1):Nat):Int):=by rw[Nat.pow_succ];simp[Int.mul_comm]
  rw[e];constructor
  ·intro h;have:2^(j+1)<=M:=(Nat.le_log2 F).1 aa;omega
  ·intro h;have:M<2^(j+1):=(Nat.log2_lt F).1 aa;omega
 have f:∀j,j<=k->0<=(2:Int)*2^j/\(2:Int)*2^j<=131072:=by
  intro j D;have:=vM j aa;have e:(2:Int)*2^j=2^(j+1):=by rw[Int.pow_succ];omega
  have p:(0:Int)<2^(j+1):=Int.pow_pos al;omega
 have R:dn n b=jZ b k (k+1)++lK b M k k:=by unfold dn;rw[hM,hk]
 have S:dN n=2*k+1:=by unfold dN;rw[hM,hk]
 have IG:=af R;have IH:=af S;have HP:=af C;have HP2:=af f;have wn:wrap64 (n+1)=n+1:=ix ⟨aa,aa⟩;have o0:=ay.iV 164 2 w w.heap.size (av _);have q0:=(Q.refl w).alloc (ac #[] 164);clear hM R S hk C f;go_enter Gz.gf func129,ntmps129;go_wp2;go_loopw[5,6] (λu i wr=>∃j:Nat,j<=k/\i=U O j/\Hid (ay 164 2 wr w.heap.size u j (jZ b k j)/\Q w wr)) (λ_ i _=>k-(alq i).toNat)
 case atStart=>exact⟨0,aa,rfl,o0,q0⟩
 case round=>
  obtain⟨j,D,rfl,hK⟩:=hrel;obtain⟨m,E⟩:=hK.out;clear hK o0 q0;have cM:=E.size;have tZ:(j:Int)<=15:=aa;obtain⟨P,hP⟩:∃P,(2:Int)*2^j=P:=⟨_,rfl⟩;have l:=HP.out j;have hPQ:=HP2.out j D;rw[hP] at l hPQ;have HV:Hid (IntKind.i64.wrap ((2:Int)*2^j)=P):=by rw[Hid,hP];exact aB _ ⟨by omega,by omega⟩
  have c:=Fs b k j;have T:((b:Int)+min (j:Int) 5)=(b:Int)+((min j 5:Nat):Int):=aa;obtain⟨q,hq⟩:∃q,(b:Int)+((min j 5:Nat):Int)=q:=⟨_,rfl⟩;rw[hq] at T c;clear hq hP;by_cases G:j<k
  ·have hle:P<=(M:Int):=l.1 G;rw[if_neg aa] at c;have H:=af c;clear c l;go_wp2_with(first|(refine Oc rfl rfl rfl rfl aa HV.out ?_)|(at_builtin;refine gi rfl rfl (Gz.gu underlying128) ie rfl al al rfl (m.alloc _) ⟨_,0,ns⟩ [q,1] 1 rfl rfl aa aA (λj D=>ji _ [q,1] _ j D) ?_;intro v' w' L N));go_roundw;case rel=>exact⟨j+1,aa,aF,by rw[H.out];exact L,(E.alloc _).grown N.bJ λg V=>(m.alloc (ac #[U O q,U O 1] 164)).below g V⟩
   case measure=>exact aT
  ·have d:j=k:=by omega
   have hgt:¬P<=(M:Int):=by have:=l.2 d;omega
   rw[if_pos d] at c;have H:=af c;have W:=af d;have wk:wrap64 ((j:Int)-1)=(j:Int)-1:=ix ⟨aa,aa⟩;clear c l d G;go_wp2_with(first|(refine Oc rfl rfl rfl rfl aa HV.out ?_)|(at_builtin;refine gi rfl rfl (Gz.gu underlying128) ie rfl al al rfl (m.alloc _) ⟨_,0,ns⟩ [q,0] 1 rfl rfl aa aA (λj D=>ji _ [q,0] _ j D) ?_;intro v' w' L N))
   have HO:Hid (ay 164 2 w' w.heap.size v' (k+1) (jZ b k (k+1))):=by have hh:=L;have d:=W.out;rw[<-H.out] at hh;rw[Hid,<-d];rw[<-d] at hh;exact hh
   have X:=af ((E.alloc _).grown N.bJ λg V=>(m.alloc (ac #[U O q,U O 0] 164)).below g V);clear L N m E;go_loopw[5,7] (λu i wr=>∃t:Nat,t<=k/\i=U O ((k:Int)-1-(t:Int))/\Hid (ay 164 2 wr w.heap.size u (k+1+t) (jZ b k (k+1)++lK b M k t)/\Q w wr)) (λ_ i _=>(alq i+1).toNat)
   case atStart=>exact⟨0,aa,by have:=W.out;subst this;simp,by simpa[lK] using HO.out,X.out⟩
   case round=>
    obtain⟨t,ht,rfl,hK⟩:=hrel;obtain⟨m,E⟩:=hK.out;clear hK HO X;have cM:=E.size;by_cases G:t<k
    ·have I:=Ft b M k t;obtain⟨i,hi⟩:∃i,k-1-t=i:=⟨_,rfl⟩;have J:(k:Int)-1-(t:Int)=(i:Int):=aa;rw[hi] at I;have r:=af I;clear I;rw[J];have II:=af J;clear J;have aho:(i:Int)<15:=aa;obtain⟨s,A⟩:∃s:Nat,M>>>i=s:=⟨_,rfl⟩;have hV:(M:Int)/2^i=(s:Int):=by rw[Rc,A]
     have Z:s<=M:=by rw[<-A,alS];exact Nat.div_le_self ..
     have hand:(s:Int).tmod 2=((s%2:Nat):Int):=by rw[Int.tmod_eq_emod_of_nonneg (by omega)];omega
     have K:(s:Int)%2=((s%2:Nat):Int):=aa;rw[A] at r;obtain⟨bt,U7⟩:∃z:Int,((s%2:Nat):Int)=z:=⟨_,rfl⟩;rw[U7] at hand K r;have HV2:=af hV;clear hV A U7 Z;obtain⟨q2,hq2⟩:∃q,(b:Int)+6=q:=⟨_,rfl⟩;rw[hq2] at r;go_wp2_with(first|(refine Ob rfl rfl rfl rfl aa HV2.out ?_)|(at_builtin;refine gi rfl rfl (Gz.gu underlying128) ie rfl al al rfl (m.alloc _) ⟨_,0,ns⟩ [q2,bt] 1 rfl rfl aa aA (λj D=>ji _ [q2,bt] _ j D) ?_;intro v2 w2 L N));go_roundw;case rel=>exact⟨t+1,aa,by have:=II.out;go_num,by rw[r.out,<-ajH];exact L,(E.alloc _).grown N.bJ λg V=>(m.alloc (ac #[U O q2,U O bt] 164)).below g V⟩
     case measure=>simp[alq]
    ·have IJ:t=k:=by omega
     rw[IJ] at m;have aiS:(k:Int)-1-(t:Int)= -1:=aa;have IK:Hid (dN n=k+1+k):=by rw[Hid,IH.out];omega
     go_wp2;go_ret;refine⟨_,rfl,?_,E⟩;rw[IG.out,IK.out];exact m
end
section
open Go.RowKit Go.WideShapes Go.ChangeShapes
def lL(s k:Nat):Nat:=if s%2=0 then 3-k else k
def tp(s k:Nat)(xs:List Int):List Int:=if lL s k<=s/\s-lL s k<=3 then xs++[4*(lL s k:Int)+(s:Int)-(lL s k:Int)] else xs
def m9(s k:Nat)(xs:List Int):List Int:=(ajv k).foldl (λst j=>tp s j st) xs
def ll(s:Nat):List Int:=(ajv s).foldl (λst j=>m9 j 4 st) []
def aay(s k:Nat)(xs:List Int):m9 s (k+1) xs=tp s k (m9 s k xs):=by simp[m9,akq]
def Zq(s:Nat):ll (s+1)=m9 s 4 (ll s):=by simp[ll,akq]
def adI:ll 7=lC:=aE
def aff:∀s,s<7->∀k,k<=4->(m9 s k (ll s)).length<=16:=al
def OT:aiK Gz.prog 126 #[] w λe w'=>∃g c,e=be (Y (an ⟨g,0,ns⟩) 16 c)/\Own w' w.heap.size (Y (an ⟨g,0,ns⟩) 16 c) 16 lC/\Q w w':=by
 have l:=Own.iV w w.heap.size (av _);have m:=(Q.refl w).alloc (ac #[] 3);go_enter Gz.gf func126,ntmps126;go_wp2;go_loopw[1,2] (λv i wr=>∃(s n:Nat),s<=7/\i=U O s/\Own wr w.heap.size v n (ll s)/\Q w wr) (λ_ i _=>7-(alq i).toNat)
 case atStart=>exact⟨0,0,dk _,rfl,l,m⟩
 case round=>
  obtain⟨s,n,E,rfl,ip,li⟩:=hrel;clear l m;by_cases h:s<7
  ·have b:(s:Int)<7:=by omega
   have HO:=af ip;have p:=af li;clear ip li;go_wp2;go_loopw[1,3] (λv i wr=>∃(k n:Nat),k<=4/\i=U O k/\Own wr w.heap.size v n (m9 s k (ll s))/\Q w wr) (λ_ i _=>4-(alq i).toNat)
   case atStart=>exact⟨0,n,aa,rfl,HO.out,p.out⟩
   case round=>
    obtain⟨k,n,u,rfl,ip,li⟩:=hrel;clear HO p;by_cases z:k<4
    ·have d:(k:Int)<4:=by omega
     have A:n<=16:=by have h1:=aff s h k u;have F:=ip.len;omega
     have C:=li.size;have i9:=aay s k (ll s);generalize m9 s k (ll s)=xs at ip i9;by_cases q:s%2=0
     ·have j:((s:Int)%2==0)=AT:=by simp;omega
      have hy:lL s k=3-k:=by unfold lL;rw[if_pos q]
      by_cases hc:lL s k<=s/\s-lL s k<=3
      ·unfold tp at i9;rw[if_pos hc,hy,show((3-k:Nat):Int)=3-(k:Int) by omega] at i9;rw[hy] at hc;have EQ:=af i9;have HA:Hid (decide ((0:Int)<=(s:Int)-(3-(k:Int))/\(s:Int)-(3-(k:Int))<=3)=AT):=decide_eq_true aa;exact Kw
      ·unfold tp at i9;rw[if_neg hc] at i9;rw[hy] at hc;have EQ:=af i9;have HA:Hid (decide ((0:Int)<=(s:Int)-(3-(k:Int))/\(s:Int)-(3-(k:Int))<=3)=Bz):=decide_eq_false aa;exact Ky
     ·have j:((s:Int)%2==0)=Bz:=by simp;omega
      have hy:lL s k=k:=by unfold lL;rw[if_neg q]
      by_cases hc:lL s k<=s/\s-lL s k<=3
      ·unfold tp at i9;rw[if_pos hc,hy] at i9;rw[hy] at hc;have EQ:=af i9;have HA:Hid (decide ((0:Int)<=(s:Int)-(k:Int)/\(s:Int)-(k:Int)<=3)=AT):=decide_eq_true aa;exact Kw
      ·unfold tp at i9;rw[if_neg hc] at i9;rw[hy] at hc;have EQ:=af i9;have HA:Hid (decide ((0:Int)<=(s:Int)-(k:Int)/\(s:Int)-(k:Int)<=3)=Bz):=decide_eq_false aa;exact Ky
    ·have d:k=4:=by omega
     subst d;have r:Hid (ll (s+1)=m9 s 4 (ll s)):=Zq s;generalize m9 s 4 (ll s)=xs at ip r;go_wp2;go_roundw;case rel=>exact⟨s+1,n,aa,aF,by rw[r.out];exact ip,li⟩
     case measure=>exact aT
  ·have b:s=7:=by omega
   subst b;rw[adI] at ip;have D:=ip.len;have f:n=16:=by rw[Ae] at D;omega
   subst f;exact Kz
end
section
open Go.RowKit Go.WideShapes Go.ChangeShapes
def aaz{c:List (Int×Int)}(d:k<c.length)(b:List Int):fT (c.drop k) b 16=ns:=by rw[EN d,if_pos];omega
def abU{A:Option ajF}(c:Nat){m:List (Int×Int)}(hx:Rd w B A (fl m))(hn:m.length=n)(xu:n<=16)(hB:B<=w.heap.size):
  aiK Gz.prog 91 #[Y A n c] w λe w'=>e=be (ci #[a9 (arr ((gO m).getD cZ)),a5 (gO m).isSome])/\Q w w':=by
 have I:=Nb.new 94 16 w cZ rfl;have b1:=Nb.new 94 16 (w.alloc (ac (arr cZ) 94)) cZ rfl;rw[OF] at b1;have C:=I.alloc (ac (arr cZ) 94);have hnn:(n:Int)<=16:=aa;go_enter Gz.gf func91,ntmps91;go_wp2_with((refine dx (n:=16) rfl _ _ _ rfl _ rfl _ cZ rfl aG rfl cN ?_;intro w9 J D R));refine(OT).mono ?_;rintro e w1⟨h,ch,rfl,o1,q1⟩;have b2:=(C.grown D aj).q q1;have b3:=J.q q1;have qq:Q w w1:=Q.trans (((Q.refl w).alloc _).alloc _|>.grown D λk e=>by have:=aJ e;omega) q1;have S:w9.heap.size=w.heap.size+2:=by rw[R];simp
 have o2:=o1.mono (B':=w.heap.size+2) aa;have T:=q1.size;have V:w.heap.size+1<w1.heap.size:=aa;clear I b1 C D R J q1 o1;go_wp2;have HX:=af hx;clear hx;go_loopw[6,7] (λv i wr=>∃(k p:Nat)(b:List Int),k<=n/\p<=16/\(p=16->k=n)/\i=U O k/\v=U O p/\Hid (Nb 94 16 wr w.heap.size cZ/\Nb 94 16 wr (w.heap.size+1) b/\Own wr (w.heap.size+2) (Y (an ⟨h,0,ns⟩) 16 ch) 16 lC/\Q w wr/\fT (m.drop k) b p=gO m)) (λ_ i _=>n-(alq i).toNat)
 case atStart=>exact⟨0,0,cZ,aa,aa,aa,rfl,rfl,b2,b3,o2,qq,rfl⟩
 case round=>
  obtain⟨k,p,b,hk,hp,U8,rfl,rfl,hK⟩:=hrel;obtain⟨k0,k1,k5,kq,kl⟩:=hK.out;clear hK b2 b3 o2 qq T V S;by_cases aV:k<n
  ·have jn:(k:Int)<(n:Int):=by omega
   have E:k<m.length:=aa;obtain⟨f1,f2⟩:=Bn m k E;have d:=EN E b p;have wZ:p=15->True:=λ_=>trivial;rw[kl] at d;generalize m[k]=r at f1 f2 d;obtain⟨z,l⟩:=r;dsimp only at f1 f2 d;obtain⟨bb,oo,rfl,IB,hc⟩:=HX.out.q kq hB ny;have c1:=hc (k*2) ny;have W:=hc (k*2+1) ny;rw[f1] at c1;rw[f2] at W;rw[<-Nat.add_assoc] at W;have ahl:(p:Int)<=15:=aa;clear hc f1 f2;have X:=af k0;have F:=af k1;have K:=af k5;have KQ:=af kq;clear k0 k1 k5 kq kl;by_cases F':l=0\/z<0\/16-(p:Int)<=z
   ·rw[if_pos F'] at d;have HL:=af d;clear d;have I:=X.out;by_cases h2:0<=z/\z<=15-(p:Int)
    ·have HA:Hid (decide ((0:Int)<=z/\z<=15-(p:Int))=AT):=decide_eq_true h2;have h1:l=0:=aa;subst h1;exact Mm
    ·have HA:Hid (decide ((0:Int)<=z/\z<=15-(p:Int))=Bz):=decide_eq_false h2;exact Mm
   ·rw[if_neg F'] at d;have HL:=af d;have H':(l==0)=Bz:=aA;have mt:0<=z:=aa;have hz1:z<16-(p:Int):=aa;have HA:Hid (decide ((0:Int)<=z/\z<=15-(p:Int))=AT):=decide_eq_true aa;clear d F';obtain⟨u,rfl⟩:∃u:Nat,z=(u:Int):=⟨z.toNat,aa⟩;rw[Int.toNat_natCast] at HL;have hq:p+u<16:=aa;have Z:(p:Int)+(u:Int)<16:=aa;obtain⟨q,G⟩:∃q,p+u=q:=⟨_,rfl⟩;have f:(p:Int)+(u:Int)=(q:Int):=aa;have rh:=af f;rw[G] at HL hq;rw[f] at Z;clear G f;obtain⟨t,ht⟩:∃t,gZ[q]?.getD 0=t:=⟨_,rfl⟩;have s:t<16:=by have:=tn q hq;omega
    have IC:(t:Int)<16:=aa;rw[ht] at HL;have c5:=K.out.at q hq;rw[AL hq,ht] at c5;have IL:=K.out.dE;go_wp2_with((go_at_call 14;(with_reducible refine(bZ _ HA).mono ?_);rintro e w'⟨rfl,rfl⟩));rw[rh.out];have L:=F.out.at t s;generalize b[t]?.getD 0=bt at L
    go_still_tail 9,ah
    change ajU _ _ _ _ _ wr.drew;have L:=F.out.drew.at t s;generalize b[t]?.getD 0=bt at L;have ft:=F.out.drew.free t;have M:=af (X.out.drew.aN (p:=⟨w.heap.size+1,t,ns⟩) aj (U O l));have F1:=af (F.out.drew.set t l);have F5:=af (K.out.drew.aN (p:=⟨w.heap.size+1,t,ns⟩) aj (U O l));have N:=af (KQ.out.drew.set (p:=⟨w.heap.size+1,t,ns⟩) aj (U O l));generalize wr.drew=w3 at L ft M F1 F5 N⊢;clear c5 c1 W X F K KQ ht;by_cases g:q+1=16/\k+1<n
    ·obtain⟨H,hf2⟩:=g
     have HL2:Hid (gO m=ns):=by have hh:=HL.out;rw[H,aaz aa] at hh;exact hh
     have j:q=15:=aa;subst j;have hkl:(k:Int)<(n:Int)-1:=aa;have I:=M.out;go_wp2_with((refine dx (n:=16) rfl _ _ _ rfl _ rfl _ cZ rfl aG rfl cN ?_;intro w9 J D R));refine ajz (kV aD aD J.blk (Gz.gu underlying94) rfl CY) rfl ⟨?_,N.out.grown D λk e=>by have:=aJ e;omega⟩;rw[HL2.out];rfl
    ·by_cases H:q+1=16
     ·have j:q=15:=by omega
      subst j;have hkl:¬(k:Int)<(n:Int)-1:=aa;have aiT:k+1=n:=aa;clear g;go_wp2;go_roundw;case rel=>exact⟨k+1,15+1,_,aa,aa,aa,aF,aF,M.out,F1.out,F5.out,N.out,HL.out.symm⟩
      case measure=>exact aT
     ·have aiU:(((q:Int)+1)==16)=Bz:=by simp;omega
      clear g;go_wp2;go_roundw;case rel=>exact⟨k+1,q+1,_,aa,aa,aa,aF,aF,M.out,F1.out,F5.out,N.out,HL.out.symm⟩
      case measure=>exact aT
  ·exact Kv
end
section
open Go.RowKit Go.WideShapes Go.ChangeShapes
def Od(xs:List Int)(c:k<16):(ma xs).drop k=xs[gZ[k]?.getD 0]?.getD 0::(ma xs).drop (k+1):=by have d:(ma xs).length=16:=aD;rw[List.drop_eq_getElem_cons aa];have b:k<gZ.length:=aG;simp[ma,b]
def EO(xs:List Int):(ma xs).length=16:=aE
def EP:∀(xs:List Int)(z:Int),(iH xs z).length<=xs.length
 |[],_=>by simp[iH]
 |x::r,z=>by
  rw[iH];split
  ·have:=EP r (z+1);simp;omega
  ·have:=EP r 0;simp;omega
def ET(xs:List Int):(dy xs).length<=16:=by have:=EP (ma xs) 0;exact this
def adJ(w:AS)(M:xs.length=16):
  aiK Gz.prog 159 #[a9 (arr xs)] w λe w'=>∃v',e=be v'/\ay 126 2 w' w.heap.size v' (dy xs).length (fl (dy xs))/\Q w w':=by
 have s1:=bQ xs;rw[M] at s1;have N:=(Nb.new 94 16 w xs M);have D:=ay.iV 126 2 (w.alloc (ac (arr xs) 94)) w.heap.size aj;have R:Q w ((w.alloc (ac (arr xs) 94)).alloc (ac #[] 126)):=aU;have S:=N.alloc (ac #[] 126);rw[OF] at D;go_enter Gz.gf func159,ntmps159;go_wp2;refine(OT).mono ?_;rintro e w1⟨h,ch,rfl,r,q1⟩;have E:=S.q q1;have T:=D.q q1;have V:=R.trans q1;have Cf:w.heap.size<w1.heap.size:=by have:=E.lt;omega
 have U9:w.heap.size+2<=h:=by have:=r.block.1;simpa using this
 clear N S D R q1;go_wp2;have IL:=r.dE;have F:=af r;have W:=af E;have X:=af V;have m:∀g,(Value.slice (an ⟨w.heap.size+1,0,ns⟩) 0 0).ownBlock=an g->g=w.heap.size+1:=λg c=>by injection c with c;exact c.symm
 clear r E V;go_loopw[3,5,6] (λu zz i wr=>∃(k z:Nat)(acc:List (Int×Int)),k<=16/\i=U O k/\zz=U O z/\z<=k/\acc.length<=k/\Hid (ay 126 2 wr w.heap.size u acc.length (fl acc)/\Own wr (w.heap.size+2) (Y (an ⟨h,0,ns⟩) 16 ch) 16 lC/\Nb 94 16 wr w.heap.size xs/\Q w wr/\(∀g,u.ownBlock=an g->g≠w.heap.size/\g≠h)/\h<wr.heap.size/\acc++iH ((ma xs).drop k) (z:Int)=dy xs)) (λ_ _ i _=>16-(alq i).toNat)
 case atStart=>exact⟨0,0,[],aa,rfl,rfl,aa,aj,T,F.out.mono aj,W.out,X.out,(λg c=>by have:=m g c;omega),F.out.block.2,rfl⟩
 case round=>
  obtain⟨k,z,acc,hk,rfl,rfl,hzk,Va,hK⟩:=hrel;obtain⟨s,G,H,A,Z,k6,b⟩:=hK.out;clear hK T F W X m;by_cases d:k<16
  ·have l:(k:Int)<16:=by omega
   have c1:=G.at k d;rw[AL d] at c1;rw[Od xs d,iH] at b;have ht:=tn k d;generalize gZ[k]?.getD 0=t at c1 b ht;have IC:(t:Int)<16:=aa;have c2:=H.at t ht;generalize xs[t]?.getD 0=x at c2 b;have hzi:(z:Int)<=16:=aa;have cM:=A.size;have K2:=af G;have K3:=af H;have K4:=af A;have C:=af Z;clear G H A Z;by_cases f:x=0
   ·rw[if_pos f] at b;have I:=af b;subst f;clear b;go_wp2;go_roundw;case rel=>exact⟨k+1,z+1,acc,aa,aF,aF,aa,aa,s,K2.out,K3.out,K4.out,C.out,k6,I.out⟩
    case measure=>exact aT
   ·rw[if_neg f] at b;have I:=af b;have ri:(x==0)=Bz:=by simp[f]
    clear b;go_wp2_with(at_builtin;refine gi rfl rfl (Gz.gu underlying124) Fu rfl al al rfl (s.alloc _) ⟨_,0,ns⟩ [z,x] 1 rfl rfl aa aA (λj J=>ji _ [z,x] _ j J) ?_;intro v' w' O2 G2);go_roundw
    case rel=>
     have p:bD u3 (wr.alloc (ac #[U O (z:Int),U O x] 126)) v' w':=G2;have K:=p.size;rw[OF] at K;have L:u3.ownBlock≠an h:=λe=>(C.out h e).2 rfl;refine⟨k+1,0,acc++[((z:Int),x)],aa,aF,rfl,aa,by simp;omega,by simpa[FY] using O2,(K2.out.alloc _).other p.bJ (.inr λe=>L e.symm),(K3.out.alloc _).eJ p λe=>(C.out _ e).1 rfl,(K4.out.alloc _).grown p.bJ λg c=>(s.alloc (ac #[U O (z:Int),U O x] 126)).below g c,?_,aa,by rw[ajH];exact I.out⟩
     ·intro g c;rcases p.own with e|⟨j,e,J⟩
      ·exact C.out g (e.symm.trans c)
      ·rw[c] at e;injection e with e;simp at J;omega
    case measure=>exact aT
  ·have l:k=16:=by omega
   subst l;rw[List.drop_of_length_le (by rw[EO];omega),iH,List.append_nil] at b;rw[<-b];go_wp2;go_ret;rw[<-b];exact⟨_,rfl,s,A⟩
end
def ku:Nat->ax->Option (List (Int×Int)×ax)
 |0,d=>an ([],d)
 |k+1,d=>
  match(aQ 23 d).1,(aQ 30 (aQ 23 d).2).1 with
  |some z,an l=>
   if 8159<l then ns else
   match ku k (aQ 30 (aQ 23 d).2).2 with
   |some (r,b)=>an ((z,aX (l+1))::r,b)
   |none=>ns
  |_,_=>ns
def gP(d:ax):Option (List Int×ax):=
 match(aQ 16 d).1 with
 |some m=>
  if 16<m then ns else
  match ku m.toNat (aQ 16 d).2 with
  |some (r,c)=>(gO r).map λb=>(b,c)
  |none=>ns
 |none=>ns
def mg:Nat->ax->Option (List Int×ax)
 |0,d=>an ([],d)
 |k+1,d=>
  match gP d with
  |some (b,d1)=>
   match mg k d1 with
   |some (r,d2)=>an (b++r,d2)
   |none=>ns
  |none=>ns
def ld:Nat->ax->Option (List Int×ax)
 |0,d=>an ([],d)
 |k+1,d=>
  match(aQ 9 d).1 with
  |some m=>
   if 4<m then ns else
   match ld k (aQ 9 d).2 with
   |some (r,d2)=>an (m::r,d2)
   |none=>ns
  |none=>ns
def qM(d:ax):Option (List Int×ax):=
 match(aQ 2 d).1,(aQ 2 (aQ 2 d).2).1 with
 |some x,an y=>if 32<x\/32<y then ns else an ([1,aX x,aX y,0,0,0,0],(aQ 2 (aQ 2 d).2).2)
 |_,_=>ns
def na(d:ax):Option (List Int×ax):=(ld 4 d).map λr=>([2,0,0]++r.1,r.2)
def mh(ap:Bool)(d:ax):Option (List Int×ax):=
 if(l9 ap (d,0)).1=1 then qM (l9 ap (d,0)).2.1 else na (l9 ap (d,0)).2.1
def gQ(ap:Bool)(d:ax):Option (List Int×ax):=
 if ap=Bz/\cU d 0=0 then an (et,bO d 0)
 else match mh ap (iT ap (d,0)).1 with
  |some (h,d1)=>(mg 4 d1).map λr=>(h++r.1,r.2)
  |none=>ns
def jQ(ap:Bool):Nat->ax->Option (List Int)
 |0,_=>an []
 |k+1,d=>
  match gQ ap d with
  |some (m,d1)=>(jQ ap k d1).map λr=>m++r
  |none=>ns
def jv(data:List Int)(n:Int)(ap:Bool):Option (List Int):=
 if 1<=n/\n<=4 then
  match jQ ap n.toNat (eG data) with
  |none=>ns
  |some xs=>if(eI ap xs n.toNat).getD []=data.map kN then an xs else ns
 else ns
def sU(b:Nat){s:bw}(h:s.2≠0):(bk b s).2.2≠0:=by
 unfold bk;split
 ·simp
 ·exact h
def vN:∀(k:Nat){s:bw},s.2≠0->(eT k s).2.2≠0
 |0,_,h=>h
 |k+1,_,h=>vN k (sU 30 (sU 23 h))
def YE{s:bw}(h:s.2≠0):(iD s).2.2≠0:=by
 have:=vN (min (bk 16 s).1 17).toNat (sU 16 h);unfold iD;dsimp only;split
 ·omega
 ·simp_all
def EU:∀(k:Nat){s:bw},s.2≠0->(fg k s).2.2≠0
 |0,_,h=>h
 |k+1,_,h=>EU k (YE h)
def Oe:∀(k:Nat){s:bw},s.2≠0->(ij k s).2.2≠0
 |0,_,h=>h
 |k+1,_,h=>Oe k (sU 9 h)
def sE{b:Nat}{d:ax}{n:Int}(h:(aQ b d).1=an n)(e:Nat):bk b (d,e)=(n,((aQ b d).2,e)):=by
 unfold bk;split<;>rename_i x y<;>rw[y] at h<;>cases h
 rw[y]
def sG{b:Nat}{d:ax}(h:(aQ b d).1=ns)(e:Nat):(bk b (d,e)).2.2≠0:=by
 unfold bk;split
 ·simp
 ·simp_all
def aaA{l:Int}(h:0<=l)(k:l<=8159): -4080<=aX (l+1)/\aX (l+1)<=4080:=by
 unfold aX;split
 ·omega
 ·omega
def adK{l:Int}(h:8159<l)(k:l<=65534):aX (l+1)=0\/¬(-4080<=aX (l+1)/\aX (l+1)<=4080):=by
 unfold aX;split
 ·omega
 ·omega
def OU:∀(k:Nat)(d:ax),
  (∃r e,ku k d=an (r,e)/\eT k (d,0)=(r,(e,0))/\∀p∈r,-4080<=p.2/\p.2<=4080)\/
  (ku k d=ns/\((eT k (d,0)).2.2≠0\/∃p∈(eT k (d,0)).1,p.2=0\/¬(-4080<=p.2/\p.2<=4080)))
 |0,d=>.inl ⟨[],d,rfl,rfl,λ_ h=>by simp at h⟩
 |k+1,d=>by
  rw[ku,eT];dsimp only;cases i:(aQ 23 d).1 with
  |none=>exact .inr ⟨rfl,.inl (vN k (sU 30 (sG i 0)))⟩
  |some z=>
   rw[sE i 0];dsimp only;generalize j:(aQ 23 d).2=d1;cases f:(aQ 30 d1).1 with
   |none=>exact .inr ⟨rfl,.inl (vN k (sG f 0))⟩
   |some l=>
    rw[sE f 0];have b:=kj f;dsimp only;generalize(aQ 30 d1).2=d2;by_cases g:8159<l
    ·rw[if_pos g];exact .inr ⟨rfl,.inr ⟨_,nB ..,adK g b.2⟩⟩
    ·rw[if_neg g];rcases OU k d2 with⟨r,e,h1,c,m⟩|⟨h1,c⟩
     ·rw[h1,c];refine .inl ⟨_,_,rfl,rfl,?_⟩;intro p hp;rcases jH.1 hp with rfl|hp
      ·exact aaA b.1 aa
      ·exact m p hp
     ·rw[h1];refine .inr ⟨rfl,?_⟩;rcases c with c|⟨p,hp,c⟩
      ·exact .inl c
      ·exact .inr ⟨p,pP _ hp,c⟩
def adL:∀i,i<16->∀j,j<16->gZ[i]?.getD 0=gZ[j]?.getD 0->i=j:=al
def Of:∀(f:List (Int×Int))(b:List Int)(p:Nat){c:List Int},b.length=16->fT f b p=an c->∀j,j<p->j<16->c[gZ[j]?.getD 0]?.getD 0=b[gZ[j]?.getD 0]?.getD 0
 |[],b,p,c,_,h,_,_,_=>by simp[fT] at h;rw[h]
 |(z,l)::r,b,p,c,g,h,j,i,d=>by
  rw[fT] at h;split at h
  ·cases h
  ·rename_i m;rw[Of r _ _ (by simp[g]) h j aa d];rw[List.getElem?_set_ne];intro e;have:=adL (p+z.toNat) aa j d e;omega
def Qb:∀(d:List (Int×Int))(b:List Int)(p:Nat){c:List Int},b.length=16->fT d b p=an c->∀q∈d,q.2≠0/\∃j,j<16/\c[j]?.getD 0=q.2
 |[],b,p,c,_,h,q,hq=>by simp at hq
 |(z,l)::r,b,p,c,f,h,q,hq=>by
  rw[fT] at h;split at h
  ·cases h
  ·rename_i g;rcases jH.1 hq with rfl|hq
   ·refine⟨λe=>g (.inl e),gZ[p+z.toNat]?.getD 0,tn _ aa,?_⟩;rw[Of r _ _ (by simp[f]) h (p+z.toNat) aa aa];have:=tn (p+z.toNat) aa;rw[List.getElem?_set_self aa];rfl
   ·exact Qb r _ _ (by simp[f]) h q hq
def Re(M:Int):∀(g:List (Int×Int))(b:List Int)(p:Nat){c:List Int},fT g b p=an c->aS b M=AT->(∀q∈g,-M<=q.2/\q.2<=M)->aS c M=AT
 |[],b,p,c,h,d,_=>by simp[fT] at h;rw[<-h];exact d
 |(z,l)::r,b,p,c,h,d,hq=>by
  rw[fT] at h;split at h
  ·cases h
  ·refine Re M r _ _ h ?_ λq e=>hq q (pP _ e);refine hU.2 λx f=>?_;rcases List.mem_or_eq_of_mem_set f with f|rfl
   ·exact hU.1 d x f
   ·exact decide_eq_true (hq (z,x) (nB ..))
def afg{M:Int}(j:Nat)(b:j<xs.length)(h:¬(-M<=xs[j]?.getD 0/\xs[j]?.getD 0<=M)):aS xs M=Bz:=by
 cases e:aS xs M with
 |false=>rfl
 |true=>have:=hU.1 e (xs[j]?.getD 0) (by rw[List.getElem?_eq_getElem b];exact sf b);exact absurd (of_decide_eq_true this) h
theorem YF(d:ax):
  (∃b f,gP d=an (b,f)/\iD (d,0)=(b,(f,0))/\aS b 4080=AT)\/
  (gP d=ns/\((iD (d,0)).2.2≠0\/aS (iD (d,0)).1 4080=Bz)):=by
 unfold gP;cases hm:(aQ 16 d).1 with
 |none=>
  refine .inr ⟨rfl,.inl ?_⟩;have:=vN (min (bk 16 (d,0)).1 17).toNat (sG hm 0);unfold iD;dsimp only;generalize eT (min (bk 16 (d,0)).1 17).toNat (bk 16 (d,0)).2=r at this⊢;split
  ·exact this
  ·show(if r.2.2=0 then 2 else r.2.2)≠0;rw[if_neg this];exact this
 |some m=>
  unfold iD;rw[sE hm 0];dsimp only;generalize(aQ 16 d).2=d1;by_cases e:16<m
  ·rw[if_pos e];refine .inr ⟨rfl,.inl ?_⟩;rw[show(min m 17).toNat=17 by omega];have h:=OP 17 (d1,0);generalize eT 17 (d1,0)=r at h⊢;have i:gO r.1=ns:=OO _ _ _ aa aa;rw[i];show(if r.2.2=0 then 2 else r.2.2)≠0;split
   ·decide
   ·assumption
  ·rw[if_neg e,show(min m 17).toNat=m.toNat by omega];rcases OU m.toNat d1 with⟨r,f,h1,c,l⟩|⟨h1,c⟩
   ·rw[h1,c];dsimp only;cases g:gO r with|none=>simp|some b=>exact .inl ⟨b,f,rfl,rfl,Re 4080 r _ _ g al l⟩
   ·rw[h1];refine .inr ⟨rfl,?_⟩;generalize eT m.toNat (d1,0)=r at c⊢;cases g:gO r.1 with
    |none=>grind
    |some b=>
     rcases c with c|⟨p,q,c⟩
     ·exact .inl c
     ·right
      obtain⟨s,j,u,z⟩:=Qb r.1 _ _ aD g p q;refine afg j (by rw[zA g];exact u) ?_;rw[z];rcases c with c|c
      ·exact absurd c s
      ·exact c
def nO(xs ys:List Int)(M:Int):aS (xs++ys) M=(aS xs M&&aS ys M):=by simp[aS]
def OV:∀(k:Nat)(d:ax),
  (∃b f,mg k d=an (b,f)/\fg k (d,0)=(b,(f,0))/\aS b 4080=AT)\/
  (mg k d=ns/\((fg k (d,0)).2.2≠0\/aS (fg k (d,0)).1 4080=Bz))
 |0,d=>.inl ⟨[],d,rfl,rfl,rfl⟩
 |k+1,d=>by
  rw[mg,fg];dsimp only;rcases YF d with⟨b,f,h1,c,h⟩|⟨h1,c⟩
  ·rw[h1,c];dsimp only;rcases OV k f with⟨r,d2,g,e,i⟩|⟨g,e⟩
   ·rw[g,e];exact .inl ⟨_,_,rfl,rfl,by rw[nO,h,i];rfl⟩
   ·rw[g];refine .inr ⟨rfl,?_⟩;rcases e with e|e
    ·exact .inl e
    ·exact .inr (by rw[nO,e,ama])
  ·rw[h1];refine .inr ⟨rfl,?_⟩;rcases c with c|c
   ·exact .inl (EU k c)
   ·exact .inr (by rw[nO,c,alX])
def Og:∀(k:Nat)(d:ax),
  (∃b f,ld k d=an (b,f)/\ij k (d,0)=(b,(f,0))/\(b.all λx=>decide (0<=x/\x<=4))=AT)\/
  (ld k d=ns/\((ij k (d,0)).2.2≠0\/((ij k (d,0)).1.all λx=>decide (0<=x/\x<=4))=Bz))
 |0,d=>.inl ⟨[],d,rfl,rfl,rfl⟩
 |k+1,d=>by
  rw[ld,ij];dsimp only;cases hm:(aQ 9 d).1 with
  |none=>exact .inr ⟨rfl,.inl (Oe k (sG hm 0))⟩
  |some m=>
   rw[sE hm 0];have h:=kj hm;dsimp only;generalize(aQ 9 d).2=d1;by_cases g:4<m
   ·rw[if_pos g];refine .inr ⟨rfl,.inr ?_⟩;rw[List.all_cons,decide_eq_false aa,alX]
   ·rw[if_neg g];rcases Og k d1 with⟨r,d2,e,c,i⟩|⟨e,c⟩
    ·rw[e,c];exact .inl ⟨_,_,rfl,rfl,by rw[List.all_cons,i,decide_eq_true aa];rfl⟩
    ·rw[e];refine .inr ⟨rfl,?_⟩;rcases c with c|c
     ·exact .inl c
     ·exact .inr (by rw[List.all_cons,c,ama])
end Go.Proofs.Q0
