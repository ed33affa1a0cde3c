import Derived.Test.YtfmnlpedhgficaaGreatDoorK24
set_option maxRecDepth 100000
set_option maxHeartbeats 8000000
set_option linter.all false
open Go.Value renaming int->U,slice->Y,bool->a5,agg->a9,pointer->bi,tuple->ci,iface->em
open Go.IntKind renaming i64->O
open Go.Obj renaming cells->ac
open Go.Ending renaming returned->be
open Bool renaming false->Bz,true->AT
open Go renaming Calls->aiK,Value->so,World->AS,bodyPost_end->alp
open Go.IntKind renaming i64->EV
open Go.RowKit renaming intOf->alq
open Go.World renaming size_alloc->OF
open Int renaming natCast_mul->alW
open List renaming all_eq_true->aju,getElem?_eq_getElem->ajK,replicate->rl
open Option renaming none->ns,some->an
namespace Go.Proofs
def C9{p:Prop}(h:p:=by rw[Int.tmod_eq_emod_of_nonneg (by omega)];exact dr):p:=h
def zj{p:Prop}(h:p:=by go_wp2_with(first|(first|refine fw rfl rfl rfl aG ?_|refine fq aD rfl rfl aG ?_)|(refine jg rfl _ _ rfl _ rfl _ _ rfl dw aG ?_;intro w9 b9 g9 s9));refine bodyPost_ret (v:=a9 (arr _)) (results_cell_row aD _ _ _ _ _ _ _ aD (Bl.blk b9) (Gz.gu underlying94) rfl (by rw[bQ,t8];exact nI)) rfl ⟨by rw[If.out],K4.out.grown g9 λk e=>by have:=aJ e;omega⟩):p:=h
def Da{p:Prop}(h:p:=by show w.heap.size≠w.heap.size+1;omega):p:=h
def Db{p:Prop}(h:p:=by show w.heap.size<=w.heap.size+1;omega):p:=h
def LS{p:Prop}(h:p:=by
  go_wp2;go_roundw;case rel=>exact⟨k+1,aa,aF,n1.out,n4.out,n5.out⟩
  case measure=>simp[intOf];omega):p:=h
def vi{p:Prop}(h:p:=by rw[beq_eq_false_iff_ne];omega):p:=h
def DJ{p:Prop}(h:p:=by
  clear uJ uK BT rt;go_enter Gz.gf func178,ntmps178;go_wp2;refine pS ah ah ?_;repeat(go_big_quiet_step (first|(go_at_call_of 179 a1;go_at_call_of 179 b1;with_reducible exact Calls.fG (T3.out _))|(go_at_call_of 179 a1;with_reducible exact Calls.fG (T1.out _))|(go_at_call_of 179 b1;with_reducible exact Calls.fG (T2.out _))|(go_at_call_of 179 a;with_reducible exact Calls.fG (T0.out _))))
  refine wpQuiet_nil ?_;rintro _⟨⟨w7,qq⟩,rfl⟩;go_wp2;go_ret;exact⟨rfl,q0.trans qq⟩):p:=h
def yN{p:Prop}(h:p:=by rw[<-BT];exact IntWalk.i64_in _ ⟨by omega,by omega⟩):p:=h
def zc{p:Prop}(h:p:=by rw[<-rt];exact IntWalk.i64_in _ ⟨by omega,by omega⟩):p:=h
def rY{p:Prop}(h:p:=by first|exact Nat.le_refl _|omega|(simp;done)|(simp;omega)):p:=h
end Go.Proofs
namespace Go.Proofs.Q0
open Go.Proofs.Tryz
variable{x y m i n B:Nat}{c W H vx vy:Int}{w:AS}{u v:Bool}{f g:Nat->Int}{xs:List Int}{A:Option Addr}
section
open Go.RowKit
def B4(f g:Nat->Int)(c:Int)(x y:Nat):Int:=dI (f x+g y-c) 0 255
def kK(m:Nat)(f g:Nat->Int)(c:Int)(u v:Bool)(x y:Nat):Int:=
 if m=0 then mX f g u v else if m=1 then f x else if m=2 then g y else if m=3 then pz f g c (4+x-y) else B4 f g c x y
def mH(m:Nat)(f g:Nat->Int)(c:Int)(u v:Bool)(k:Nat):Int:=kK m f g c u v (k%4) (k/4)
def mI(m:Nat)(f g:Nat->Int)(c:Int)(u v:Bool):List Int:=a6 (mH m f g c u v) 16
def QD(m:Nat)(f g:Nat->Int)(c:Int)(u v:Bool):(mI m f g c u v).length=16:=aD
def aab(f g:Nat->Int)(u v:Bool)(w:AS)(j:x<4)(k:y<4)(a:EB f g c):
  aiK Gz.prog 184 #[a9 (aM f g c u v),U O x,U O y] w λe w'=>e=be (U O (B4 f g c x y))/\Q w w':=by
 have q0:Q w (w.alloc (ac (aM f g c u v) 135)):=aU;have b:=ak.new w 135 (aM f g c u v);have l:=(b.cell x).trans (qm f g c u v x j);have cb:=(b.cell (4+y)).trans (qn f g c u v y k);have o:(w.alloc (ac (aM f g c u v) 135)).cell? ⟨w.heap.size,8,ns⟩=an (U O c):=b.cell 8;obtain⟨p,q⟩:=a.1 x;obtain⟨r,s⟩:=a.2.1 y;obtain⟨c0,t⟩:=a.2.2;have d:Hid (B4 f g c x y=dI (f x+g y-c) 0 255):=rfl;rw[d.out];clear b a d;go_enter Gz.gf func184,ntmps184;go_wp2
 go_quiet((go_at_call 85;exact oN ((wJ _ _ _ _).mono λ_ _ h=>⟨h.1,h.2.symm⟩)))
 exact LP
def uL(n:Nat):so:=.func (.func n) #[] #[]
def qW:Array so:=#[uL 180,uL 181,uL 182,uL 183,uL 184]
def ac0:(qW.all λx=>x.oneCell')=AT:=by simp[qW,uL,Value.oneCell']
def aeM:(Gz.prog.info? 231).map (·.size)=an qW.size:=aE
def xk(m:Nat):Nat:=if m=0 then 180 else if m=1 then 181 else if m=2 then 182 else if m=3 then 183 else 184
def abl(f g:Nat->Int)(u v:Bool)(x y:Nat)(w:AS)(hm:m<5)(a:x<4)(b:y<4)(d:EB f g c):
  aiK Gz.prog (xk m) #[a9 (aM f g c u v),U O x,U O y] w λe w'=>e=be (U O (kK m f g c u v x y))/\Q w w':=by
 rcases(show m=0\/m=1\/m=2\/m=3\/m=4 by omega) with rfl|rfl|rfl|rfl|rfl
 ·exact abj f g u v w d
 ·exact XU f g c u v w a
 ·exact Xu f g c u v w b
 ·exact XW f g u v w a b d
 ·exact aab f g u v w a b d
def aeN(hm:m<5):∀(args:Array so)(w:AS),Sem.run Gz.prog (callFunc (xk m) args) w=.ok (.enter (xk m) args) w:=by
 rcases(show m=0\/m=1\/m=2\/m=3\/m=4 by omega) with rfl|rfl|rfl|rfl|rfl
 ·exact(Gz.cl 180)
 ·exact(Gz.cl 181)
 ·exact(Gz.cl 182)
 ·exact(Gz.cl 183)
 ·exact(Gz.cl 184)
def Yv(hm:m<5)(hb:EB f g c):
  aiK Gz.prog 155 #[a9 (aM f g c u v),U O m] w λe w'=>e=be (a9 (arr (mI m f g c u v)))/\Q w w':=by
 have F:=((ak.new w 135 (aM f g c u v)).alloc (ac (arr (rl 16 0)) 94)).alloc (ac #[.nilFunc,.nilFunc,.nilFunc,.nilFunc,.nilFunc] 231);have s:=(Bl.zero (w.alloc (ac (aM f g c u v) 135))).alloc (ac #[.nilFunc,.nilFunc,.nilFunc,.nilFunc,.nilFunc] 231);have T:=ak.new ((w.alloc (ac (aM f g c u v) 135)).alloc (ac (arr (rl 16 0)) 94)) 231 #[.nilFunc,.nilFunc,.nilFunc,.nilFunc,.nilFunc];have G:Q w (((w.alloc (ac (aM f g c u v) 135)).alloc (ac (arr (rl 16 0)) 94)).alloc (ac #[.nilFunc,.nilFunc,.nilFunc,.nilFunc,.nilFunc] 231)):=aU;simp only[OF] at s T;have TT:=af λx y z hx hy=>abl f g u v x y z hm hx hy hb;clear hb;have FC:Hid (∀z:AS,ak z (w.heap.size+1+1) 231 qW->z.cell? ⟨w.heap.size+1+1,m,ns⟩=an (.func (.func (xk m)) #[] #[])):=λz h=>(h.cell m).trans (by rcases(show m=0\/m=1\/m=2\/m=3\/m=4 by omega) with rfl|rfl|rfl|rfl|rfl<;>rfl);have Vb:(m:Int)<5:=aa;go_enter Gz.gf func155,ntmps155;go_wp2_with(refine eP (cs':=qW) rfl _ _ _ rfl rfl _ rfl rfl T rfl ac0 aeM ?_;intro l P R V;replace F:=F.grown R (λe=>by have:=aJ e;omega);replace s:=s.grown R (λe=>by have:=aJ e;omega);replace G:=G.grown R (λk e=>by have:=aJ e;omega);replace V:w.heap.size+1+1+1<=l.heap.size:=(by rw[V];simp only[OF];omega);clear R T);have X:=Bl.zero l;replace F:=F.alloc (ac (arr (rl 16 0)) 94);replace s:=s.alloc (ac (arr (rl 16 0)) 94);replace P:=P.alloc (ac (arr (rl 16 0)) 94);replace G:=G.alloc (ac (arr (rl 16 0)) 94);obtain⟨gB,K⟩:∃z,l.heap.size=z:=⟨_,rfl⟩;rw[K] at X V⊢;have K0:Hid (Q w (l.alloc (ac (arr (rl 16 0)) 94))/\ak (l.alloc (ac (arr (rl 16 0)) 94)) w.heap.size 135 (aM f g c u v)/\Bl (l.alloc (ac (arr (rl 16 0)) 94)) (w.heap.size+1) cG/\ak (l.alloc (ac (arr (rl 16 0)) 94)) (w.heap.size+1+1) 231 qW/\Bl (l.alloc (ac (arr (rl 16 0)) 94)) gB cG):=⟨G,F,s,P,X⟩;clear G F s P X K;go_loopw[9] (λi wr=>∃k:Nat,k<=16/\i=U O k/\Hid (Q w wr/\ak wr w.heap.size 135 (aM f g c u v)/\Bl wr (w.heap.size+1) cG/\ak wr (w.heap.size+1+1) 231 qW/\Bl wr gB (a6 (λj=>if j<k then mH m f g c u v j else 0) 16))) (λi _=>16-(alq i).toNat)
 case atStart=>exact⟨0,aa,rfl,by rw[sT];exact K0⟩
 case round=>
  obtain⟨k,hk,rfl,hK⟩:=hrel;obtain⟨t,I,S,C,b⟩:=hK.out;clear hK K0;by_cases D:k<16
  ·have o:(k:Int)<16:=by omega
   obtain⟨r,L⟩:∃r,k/4=r:=⟨_,rfl⟩;obtain⟨E,M⟩:∃E,k%4=E:=⟨_,rfl⟩;have d:=tc (mH m f g c u v) k D;have T1:=af λz=>TT.out E r z aa aa;have hF:mH m f g c u v k=kK m f g c u v E r:=by unfold mH;rw[L,M]
   rw[hF] at d;clear hF;generalize kK m f g c u v E r=val at d T1;have Z:=af d;have dq:(k:Int)/4=(r:Int):=aa;have dr:(k:Int)%4=(E:Int):=aa;have wq:EV.wrap (r:Int)=(r:Int):=aB _ ⟨aa,aa⟩;have yh:(k:Int).tmod 4=(E:Int):=C9;have z1:=t.size;have d0:∀i,wr.drew.cell? ⟨w.heap.size,i,ns⟩=(#[U O (f 0),U O (f 1),U O (f 2),U O (f 3),U O (g 0),U O (g 1),U O (g 2),U O (g 3),U O c,a5 u,a5 v]:Array so)[i]?:=I.cell;have dF:=FC.out wr C;have cF:=aeN hm;clear d L M TT;go_wp2;refine fe (λww=>ww.cell? ⟨w.heap.size+1+1,m,ns⟩=an (.func (.func (xk m)) #[] #[])) (λj=>decide (10<=j)) ah dF λhS=>?_;refine ai 0 (h:=ai 1 (h:=ai 2 (h:=ai 3 (h:=ai 5 (h:=ai 6 (h:=ai 7 (h:=ai 8 (h:=?_))))))));refine bA (k:=4) ah rfl rfl λK2 a=>?_;go_simp;refine a.out _ _ hS λhS=>?_;clear a K2;refine bh ?_;refine bA (k:=9) ah rfl rfl λK2 a=>?_;go_simp;refine(T1.out _).mono ?_;rintro e wa⟨rfl,J⟩;replace t:=t.drew.trans J;replace I:=ak.q (w:=wr.drew) I J;replace S:=(S.q ((Q.refl _).drew)).q J;replace C:=ak.q (w:=wr.drew) C J;replace b:=(b.q ((Q.refl _).drew)).q J;refine a.out _ _ (FC.out _ C) λhS=>?_;clear a K2;refine bh ?_;refine iB [10,11] 10 ah al rfl ?_;have c3:=b.at k D;have f3:=b.free k;rw[tl D (Nat.le_refl _)] at c3;have n5:=af (b.set k val);rw[Z.out] at n5;have n1:=af (t.set (p:=⟨gB,k,ns⟩) (by show w.heap.size<=gB;omega) (U O val));have n2:=af (I.aN (p:=⟨gB,k,ns⟩) (by show w.heap.size≠gB;omega) (U O val));have n3:=af (S.aN (p:=⟨gB,k,ns⟩) (by show w.heap.size+1≠gB;omega) (U O val));have n4:=af (C.aN (p:=⟨gB,k,ns⟩) (by show w.heap.size+1+1≠gB;omega) (U O val));clear t I S C b hS dF d0 cF wq yh dq dr J;go_wp2;go_roundw;case rel=>exact⟨k+1,aa,aF,n1.out,n2.out,n3.out,n4.out,n5.out⟩
   case measure=>exact aT
  ·have o:k=16:=by omega
   subst o;rw[sQ] at b;have t8:=QD m f g c u v;change Bl wr gB (mI m f g c u v) at b;generalize N:mI m f g c u v=vs at b t8⊢;have If:=af N;clear N;have K4:=af t;clear t I C;exact zj
end
section
open Go.RowKit
def iO(W x y:Nat)(p r:List Int):Nat->List Int->List Int
 |0,xs=>xs
 |k+1,xs=>(iO W x y p r k xs).set ((y+k/4)*W+x+k%4) (dI (p[k]?.getD 0+r[k]?.getD 0) 0 255)
def QE(W x y:Nat)(p r xs:List Int):∀k,(iO W x y p r k xs).length=xs.length
 |0=>rfl
 |k+1=>by rw[iO,List.length_set,QE W x y p r xs k]
def Gg(h:dm xs=AT){v:Int}(h1:0<=v)(b:v<=255):dm (xs.set i v)=AT:=by
 unfold dm at h⊢;rw[aju] at h⊢;intro x a;rcases List.mem_or_eq_of_mem_set a with a|rfl
 ·simp_all
 ·exact decide_eq_true ⟨h1,b⟩
def QF(W x y:Nat)(p r:List Int){xs:List Int}(h:dm xs=AT):∀k,dm (iO W x y p r k xs)=AT
 |0=>h
 |k+1=>Gg (QF W x y p r h k) (by unfold dI;omega) (by unfold dI;omega)
def S0{W H k:Nat}(a:x+4<=W)(b:y+4<=H)(d:n=H*W)(e:k<16):(y+k/4)*W+x+k%4<n:=by have:=Sg (y+k/4) W H (x+k%4) aa aa;omega
def ac1{W H g c:Nat}{p:List Int}(r:List Int)(N:Own w B (Y (an ⟨g,0,ns⟩) n c) n xs)(hn:n=H*W)(P:n<=1024)(hW:W<=32)(hH:H<=32)(hx:x+4<=W)(hy:y+4<=H)
  (lp:p.length=16)(R:r.length=16)(bp:aS p 100000=AT)(br:aS r 100000=AT):
  aiK Gz.prog 157 #[a9 #[U O W,U O H,Y (an ⟨g,0,ns⟩) n c],U O x,U O y,a9 (arr p),a9 (arr r)] w λe w'=>e=be (ci #[])/\Own w' B (Y (an ⟨g,0,ns⟩) n c) n (iO W x y p r 16 xs)/\au [g] w w':=by
 have hg:=N.block;have NW:=af λk t=>S0 (k:=k) hx hy hn t;have S:Q w (((w.alloc (ac #[U O W,U O H,Y (an ⟨g,0,ns⟩) n c] 40)).alloc (ac (arr p) 94)).alloc (ac (arr r) 94)):=aU;have V:=((ak.new w 40 #[U O W,U O H,Y (an ⟨g,0,ns⟩) n c]).alloc (ac (arr p) 94)).alloc (ac (arr r) 94);have J:=(Bl.new (w.alloc (ac #[U O W,U O H,Y (an ⟨g,0,ns⟩) n c] 40)) p lp).alloc (ac (arr r) 94);have X:=Bl.new ((w.alloc (ac #[U O W,U O H,Y (an ⟨g,0,ns⟩) n c] 40)).alloc (ac (arr p) 94)) r R;simp only[OF] at J X;have l:=N.q S;have Z:=au.gV [g] S;have s1:=bQ r;rw[R] at s1;have HP:=af λk t=>nM bp k t;have HR:=af λk t=>nM br k t;have JK:(W:Int)<=32:=aa;have Wf:(y:Int)<=32:=aa;have Wh:(x:Int)<=32:=aa;clear S bp br hn hx hy hW hH N;go_enter Gz.gf func157,ntmps157;go_wp2_with(first|(first|refine fw rfl rfl rfl aG ?_|refine fq aD rfl rfl aG ?_));generalize((w.alloc (ac #[U O W,U O H,Y (an ⟨g,0,ns⟩) n c] 40)).alloc (ac (arr p) 94)).alloc (ac (arr r) 94)=w0 at V J X l Z⊢;go_loopw[13] (λi wr=>∃k:Nat,k<=16/\i=U O k/\Hid (Own wr B (Y (an ⟨g,0,ns⟩) n c) n (iO W x y p r k xs)/\au [g] w wr/\ak wr w.heap.size 40 #[U O W,U O H,Y (an ⟨g,0,ns⟩) n c]/\Bl wr (w.heap.size+1) p)) (λi _=>16-(alq i).toNat)
 case atStart=>exact⟨0,aa,rfl,l,Z,V,J⟩
 case round=>
  obtain⟨k,t,rfl,hK⟩:=hrel;obtain⟨C,k2,K,k4⟩:=hK.out;clear hK V J X l Z;by_cases o:k<16
  ·have d:(k:Int)<16:=by omega
   have L:=NW.out k o;have he:=λw=>si r R o w;obtain⟨p1,p2⟩:=HP.out k aa;obtain⟨r1,r2⟩:=HR.out k aa;have c1:=K.cell 2;have c2:=K.cell 0;have c3:=k4.at k o;have s:Hid (iO W x y p r (k+1) xs=(iO W x y p r k xs).set ((y+k/4)*W+x+k%4) (dI (p[k]?.getD 0+r[k]?.getD 0) 0 255)):=rfl;generalize p[k]?.getD 0=D at c3 p1 p2 s;generalize r[k]?.getD 0=M at he r1 r2 s;obtain⟨b,E⟩:∃b,k/4=b:=⟨_,rfl⟩;obtain⟨a,F⟩:∃a,k%4=a:=⟨_,rfl⟩;have dq:(k:Int)/4=(b:Int):=aa;have dr:(k:Int)%4=(a:Int):=aa;have q4l:b<4:=aa;have r4l:a<4:=aa;rw[E,F] at s L;obtain⟨m,hm⟩:∃m,(y+b)*W=m:=⟨_,rfl⟩;rw[hm] at s L;have G:((y:Int)+(b:Int))*(W:Int)=(m:Int):=by rw[<-hm,alW,Int.natCast_add]
   have c4:=C.at (m+x+a) L;have f4:=C.free (m+x+a);generalize(iO W x y p r k xs)[m+x+a]?.getD 0=old at c4;have T:=af λz=>wJ (D+M) 0 255 z;obtain⟨v,hv⟩:∃v,dI (D+M) 0 255=v:=⟨_,rfl⟩;rw[hv] at T s;have P:=af (C.set (m+x+a) v);rw[<-s.out] at P;have n2:=af (k2.set (p:=⟨g,m+x+a,ns⟩) (.inl aj) (U O v));have n3:=af (K.aN (p:=⟨g,m+x+a,ns⟩) nz (U O v));have n4:=af (k4.aN (p:=⟨g,m+x+a,ns⟩) rU (U O v));have wq:EV.wrap (b:Int)=(b:Int):=aB _ ⟨aa,aa⟩;have yh:(k:Int).tmod 4=(a:Int):=C9;have t0:EV.wrap ((y:Int)+(b:Int))=(y:Int)+(b:Int):=aB _ ⟨aa,aa⟩;have t2:EV.wrap ((m:Int)+(x:Int))=(m:Int)+(x:Int):=aB _ ⟨aa,aa⟩;have t3:EV.wrap ((m:Int)+(x:Int)+(a:Int))=(m:Int)+(x:Int)+(a:Int):=aB _ ⟨aa,aa⟩;have t4:EV.wrap (D+M)=D+M:=aB _ ⟨aa,aa⟩;have i1:((m:Int)+(x:Int)+(a:Int)).toNat=m+x+a:=aa;have i2:(0:Int)<=(m:Int)+(x:Int)+(a:Int):=aa;have i3:(m:Int)+(x:Int)+(a:Int)<(n:Int):=aa;have t1:EV.wrap (((y:Int)+(b:Int))*(W:Int))=(m:Int):=by rw[G];exact aB _ ⟨by omega,by omega⟩
   clear C k2 K k4 hv G hm L E F s HP HR NW;go_wp2;refine fe (λww=>ww.cell? ⟨w.heap.size,2,ns⟩=an (Y (an ⟨g,0,ns⟩) n c)/\ww.cell? ⟨w.heap.size,0,ns⟩=an (U O W)/\ww.cell? ⟨w.heap.size+1,k,ns⟩=an (U O D)) (λj=>decide (20<=j)) ah ⟨c1,c2,c3⟩ λhS=>?_;refine ai 0 (h:=ai 1 (h:=ai 2 (h:=ai 3 (h:=ai 4 (h:=ai 5 (h:=ai 6 (h:=ai 7 (h:=ai 8 (h:=ai 9 (h:=ai 10 (h:=ai 11 (h:=ai 12 (h:=ai 13 (h:=ai 14 (h:=ai 15 (h:=ai 16 (h:=ai 17 (h:=ai 18 (h:=?_)))))))))))))))))));refine bA (k:=19) ah rfl rfl λK2 I=>?_;go_simp;refine(T.out _).mono ?_;rintro e wa⟨rfl,rfl⟩;refine I.out _ _ hS λhS=>?_;clear I K2;refine bh ?_;refine iB [20,21] 20 ah al rfl ?_;clear c1 c2 c3 hS;clear wq yh t0 t1 t2 t3 dq dr;go_wp2;go_roundw;case rel=>exact⟨k+1,aa,aF,P.out.drew,n2.out.drew,n3.out,n4.out.q ((Q.refl _).drew)⟩
   case measure=>exact aT
  ·have d:k=16:=by omega
   subst d;go_wp2;exact alp (v:=ci #[]) (by simp[results,results157,go_sem]) rfl ⟨rfl,C,k2⟩
def ac2{W H g c:Nat}{p:List Int}(r:List Int)(R:Own w B (Y (an ⟨g,0,ns⟩) n c) n xs)(hn:n=H*W)(S:n<=1024)(hW:W<=32)(hH:H<=32)(hx:x+4<=W)(hy:y+4<=H)
  (lp:p.length=16)(lr:r.length=16)(bp:aS p 100000=AT)(br:aS r 100000=AT):
  aiK Gz.prog 99 #[a9 #[U O W,U O H,Y (an ⟨g,0,ns⟩) n c],U O x,U O y,a9 (arr p),a9 (arr r)] w λe w'=>e=be (ci #[])/\Own w' B (Y (an ⟨g,0,ns⟩) n c) n (iO W x y p r 16 xs)/\au [g] w w':=by
 have hg:=R.block;have NW:=af λk t=>S0 (k:=k) hx hy hn t;have V:Q w (((w.alloc (ac #[U O W,U O H,Y (an ⟨g,0,ns⟩) n c] 40)).alloc (ac (arr p) 94)).alloc (ac (arr r) 94)):=aU;have X:=((ak.new w 40 #[U O W,U O H,Y (an ⟨g,0,ns⟩) n c]).alloc (ac (arr p) 94)).alloc (ac (arr r) 94);have K:=(Bl.new (w.alloc (ac #[U O W,U O H,Y (an ⟨g,0,ns⟩) n c] 40)) p lp).alloc (ac (arr r) 94);have L:=Bl.new ((w.alloc (ac #[U O W,U O H,Y (an ⟨g,0,ns⟩) n c] 40)).alloc (ac (arr p) 94)) r lr;simp only[OF] at K L;have l:=R.q V;have Z:=au.gV [g] V;have s1:=bQ r;rw[lr] at s1;have HP:=af λk t=>nM bp k t;have HR:=af λk t=>nM br k t;have JK:(W:Int)<=32:=aa;have Wf:(y:Int)<=32:=aa;have Wh:(x:Int)<=32:=aa;clear V bp br hn hx hy hW hH R;go_enter Gz.gf func99,ntmps99;go_wp2_with(first|(first|refine fw rfl rfl rfl aG ?_|refine fq aD rfl rfl aG ?_));generalize((w.alloc (ac #[U O W,U O H,Y (an ⟨g,0,ns⟩) n c] 40)).alloc (ac (arr p) 94)).alloc (ac (arr r) 94)=w0 at X K L l Z⊢;go_loopw[10] (λi wr=>∃k:Nat,k<=16/\i=U O k/\Hid (Own wr B (Y (an ⟨g,0,ns⟩) n c) n (iO W x y p r k xs)/\au [g] w wr/\ak wr w.heap.size 40 #[U O W,U O H,Y (an ⟨g,0,ns⟩) n c]/\Bl wr (w.heap.size+1) p/\Bl wr (w.heap.size+1+1) r)) (λi _=>16-(alq i).toNat)
 case atStart=>exact⟨0,aa,rfl,l,Z,X,K,L⟩
 case round=>
  obtain⟨k,t,rfl,hK⟩:=hrel;obtain⟨C,k2,M,k4,k5⟩:=hK.out;clear hK X K L l Z;by_cases o:k<16
  ·have d:(k:Int)<16:=by omega
   have N:=NW.out k o;obtain⟨p1,p2⟩:=HP.out k aa;obtain⟨r1,r2⟩:=HR.out k aa;have c1:=M.cell 2;have c2:=M.cell 0;have c3:=k4.at k o;have c5:=k5.at k o;have s:Hid (iO W x y p r (k+1) xs=(iO W x y p r k xs).set ((y+k/4)*W+x+k%4) (dI (p[k]?.getD 0+r[k]?.getD 0) 0 255)):=rfl;generalize p[k]?.getD 0=D at c3 p1 p2 s;generalize r[k]?.getD 0=E at c5 r1 r2 s;obtain⟨b,F⟩:∃b,k/4=b:=⟨_,rfl⟩;obtain⟨a,G⟩:∃a,k%4=a:=⟨_,rfl⟩;have dq:(k:Int)/4=(b:Int):=aa;have dr:(k:Int)%4=(a:Int):=aa;have q4l:b<4:=aa;have r4l:a<4:=aa;rw[F,G] at s N;obtain⟨m,hm⟩:∃m,(y+b)*W=m:=⟨_,rfl⟩;rw[hm] at s N;have I:((y:Int)+(b:Int))*(W:Int)=(m:Int):=by rw[<-hm,alW,Int.natCast_add]
   have c4:=C.at (m+x+a) N;have f4:=C.free (m+x+a);generalize(iO W x y p r k xs)[m+x+a]?.getD 0=old at c4;have T:=af λz=>wV (D+E) 0 255 z al;obtain⟨v,hv⟩:∃v,dI (D+E) 0 255=v:=⟨_,rfl⟩;rw[hv] at T s;have S:=af (C.set (m+x+a) v);rw[<-s.out] at S;have n2:=af (k2.set (p:=⟨g,m+x+a,ns⟩) (.inl aj) (U O v));have n3:=af (M.aN (p:=⟨g,m+x+a,ns⟩) nz (U O v));have n5:=af (k5.aN (p:=⟨g,m+x+a,ns⟩) (by show w.heap.size+1+1≠g;omega) (U O v));have n4:=af (k4.aN (p:=⟨g,m+x+a,ns⟩) rU (U O v));have wq:EV.wrap (b:Int)=(b:Int):=aB _ ⟨aa,aa⟩;have yh:(k:Int).tmod 4=(a:Int):=C9;have t0:EV.wrap ((y:Int)+(b:Int))=(y:Int)+(b:Int):=aB _ ⟨aa,aa⟩;have t2:EV.wrap ((m:Int)+(x:Int))=(m:Int)+(x:Int):=aB _ ⟨aa,aa⟩;have t3:EV.wrap ((m:Int)+(x:Int)+(a:Int))=(m:Int)+(x:Int)+(a:Int):=aB _ ⟨aa,aa⟩;have t4:EV.wrap (D+E)=D+E:=aB _ ⟨aa,aa⟩;have i1:((m:Int)+(x:Int)+(a:Int)).toNat=m+x+a:=aa;have i2:(0:Int)<=(m:Int)+(x:Int)+(a:Int):=aa;have i3:(m:Int)+(x:Int)+(a:Int)<(n:Int):=aa;have t1:EV.wrap (((y:Int)+(b:Int))*(W:Int))=(m:Int):=by rw[I];exact aB _ ⟨by omega,by omega⟩
   clear C k2 M k4 k5 hv I hm N F G s HP HR NW;go_wp2;refine fe (λP=>P.cell? ⟨w.heap.size,2,ns⟩=an (Y (an ⟨g,0,ns⟩) n c)/\P.cell? ⟨w.heap.size,0,ns⟩=an (U O W)/\P.cell? ⟨w.heap.size+1,k,ns⟩=an (U O D)/\P.cell? ⟨w.heap.size+1+1,k,ns⟩=an (U O E)) (λj=>decide (22<=j)) ah ⟨c1,c2,c3,c5⟩ λhS=>?_;refine ai 0 (h:=ai 1 (h:=ai 2 (h:=ai 3 (h:=ai 4 (h:=ai 5 (h:=ai 6 (h:=ai 7 (h:=ai 8 (h:=ai 9 (h:=ai 10 (h:=ai 11 (h:=ai 12 (h:=ai 13 (h:=ai 14 (h:=ai 15 (h:=ai 16 (h:=ai 17 (h:=ai 18 (h:=ai 19 (h:=ai 20 (h:=?_)))))))))))))))))))));refine bA (k:=21) ah rfl rfl λK2 J=>?_;go_simp;refine(T.out _).mono ?_;rintro e wa⟨rfl,rfl⟩;refine J.out _ _ hS λhS=>?_;clear J K2;refine bh ?_;refine iB [22,23] 22 ah al rfl ?_;clear c1 c2 c3 c5 hS;clear wq yh t0 t1 t2 t3 dq dr;go_wp2;go_roundw;case rel=>exact⟨k+1,aa,aF,S.out.drew,n2.out.drew,n3.out,n4.out.q ((Q.refl _).drew),n5.out.q ((Q.refl _).drew)⟩
   case measure=>exact aT
  ·have d:k=16:=by omega
   subst d;go_wp2;exact alp (v:=ci #[]) (by simp[results,results99,go_sem]) rfl ⟨rfl,C,k2⟩
end
section
open Go.RowKit
def mY(a:List Int)(i j k:Nat):Int:=a[(j+k/4)*8+i+k%4]?.getD 0
def mu(a:List Int)(i j:Nat):List Int:=a6 (mY a i j) 16
def PD(a:List Int)(i j:Nat):(mu a i j).length=16:=aD
def partAt(k:Nat)(w:AS)(a:k<4):aiK Gz.prog 153 #[U O k] w λe w'=>e=be (ci #[U O ((k%2*4:Nat):Int),U O ((k/2*4:Nat):Int)])/\w=w':=by
 all_goals
  go_enter Gz.gf func153,ntmps153;go_wp2;refine bodyPost_ret (v:=ci #[U O _,U O _]) (by simp[results,results153,go_sem]) rfl ⟨rfl,rfl⟩
def partOf(i j:Nat)(A:Option Addr)(c B:Nat)(a:List Int)(w:AS)(F:Rd w B A a)(R:B<=w.heap.size)(S:a.length=64)(hi:i<=4)(T:j<=4):
  aiK Gz.prog 156 #[Y A 64 c,U O i,U O j] w λe w'=>e=be (a9 (arr (mu a i j)))/\Q w w':=by
 obtain⟨b,o,rfl,V,hc⟩:=F aa;have G:Q w ((w.alloc (ac (arr (rl 16 0)) 94)).alloc (ac (arr (rl 16 0)) 94)):=aU;have I:=(Bl.zero w).alloc (ac (arr (rl 16 0)) 94);have t:=Bl.zero (w.alloc (ac (arr (rl 16 0)) 94));simp only[OF] at t;have J:Hid (∀k,k<64->w.cell? ⟨b,o+k,ns⟩=an (U O (a[k]?.getD 0))):=λk K=>hc k aa;clear hc F;go_enter Gz.gf func156,ntmps156;go_wp2;go_loopw[9] (λz wr=>∃k:Nat,k<=16/\z=U O k/\Hid (Bl wr w.heap.size cG/\Q w wr/\Bl wr (w.heap.size+1) (a6 (λl=>if l<k then mY a i j l else 0) 16))) (λz _=>16-(alq z).toNat)
 case atStart=>exact⟨0,aa,rfl,I,G,by rw[sT];exact t⟩
 case round=>
  obtain⟨k,K,rfl,hK⟩:=hrel;obtain⟨L,C,r⟩:=hK.out;clear hK I t G;by_cases h:k<16
  ·have d:(k:Int)<16:=by omega
   have q:=tc (mY a i j) k h;obtain⟨p,M⟩:∃p,(j+k/4)*8+i+k%4=p:=⟨_,rfl⟩;have s:p<64:=aa;have hc:=(C.cell b (o+p) aa).trans (J.out p s);have D:mY a i j k=a[p]?.getD 0:=by unfold mY;rw[M]
   rw[D] at q;generalize a[p]?.getD 0=v at hc q;have N:((j:Int)+(k:Int)/4)*8+(i:Int)+(k:Int)%4=(p:Int):=aa;have P:=r.at k h;have f3:=r.free k;rw[tl h (Nat.le_refl _)] at P;have n5:=af (r.set k v);rw[q] at n5;have n1:=af (L.aN (p:=⟨w.heap.size+1,k,ns⟩) Da (U O v));have n4:=af (C.set (p:=⟨w.heap.size+1,k,ns⟩) Db (U O v));exact LS
  ·have d:k=16:=by omega
   subst d;rw[sQ] at r;have t8:=PD a i j;change Bl wr (w.heap.size+1) (mu a i j) at r;generalize E:mu a i j=X at r t8⊢;have If:=af E;have K4:=af C;exact zj
def afK{q:Nat}(c:Nat){a:List Int}(G:Rd w B A a)(hB:B<=w.heap.size)(hl:a.length=64)(hq:q<4):
  aiK Gz.prog 98 #[Y A 64 c,U O q] w λe w'=>e=be (a9 (arr (mu a (q%2*4) (q/2*4))))/\Q w w':=by
 obtain⟨b,o,rfl,hb,hc⟩:=G aa;obtain⟨i,hi⟩:∃i,q%2*4=i:=⟨_,rfl⟩;obtain⟨j,M⟩:∃j,q/2*4=j:=⟨_,rfl⟩;have N:(q:Int)%2*4=(i:Int):=aa;have P:(q:Int)/2*4=(j:Int):=aa;have R:i<=4:=aa;have S:j<=4:=aa;rw[hi,M];have I:Q w ((w.alloc (ac (arr (rl 16 0)) 94)).alloc (ac (arr (rl 16 0)) 94)):=aU;have J:=(Bl.zero w).alloc (ac (arr (rl 16 0)) 94);have E:=Bl.zero (w.alloc (ac (arr (rl 16 0)) 94));simp only[OF] at E;have T:Hid (∀k,k<64->w.cell? ⟨b,o+k,ns⟩=an (U O (a[k]?.getD 0))):=λk V=>hc k aa;clear hc G;go_enter Gz.gf func98,ntmps98;go_wp2;go_loopw[6] (λF wr=>∃k:Nat,k<=16/\F=U O k/\Hid (Bl wr w.heap.size cG/\Q w wr/\Bl wr (w.heap.size+1) (a6 (λl=>if l<k then mY a i j l else 0) 16))) (λF _=>16-(alq F).toNat)
 case atStart=>exact⟨0,aa,rfl,J,I,by rw[sT];exact E⟩
 case round=>
  obtain⟨k,V,rfl,hK⟩:=hrel;obtain⟨K,t,r⟩:=hK.out;clear hK J E I;by_cases s:k<16
  ·have h:(k:Int)<16:=by omega
   have d:=tc (mY a i j) k s;obtain⟨p,L⟩:∃p,(j+k/4)*8+i+k%4=p:=⟨_,rfl⟩;have z:p<64:=aa;have hc:=(t.cell b (o+p) aa).trans (T.out p z);have C:mY a i j k=a[p]?.getD 0:=by unfold mY;rw[L]
   rw[C] at d;generalize a[p]?.getD 0=v at hc d;have X:((j:Int)+(k:Int)/4)*8+(i:Int)+(k:Int)%4=(p:Int):=aa;have Z:=r.at k s;have f3:=r.free k;rw[tl s (Nat.le_refl _)] at Z;have n5:=af (r.set k v);rw[d] at n5;have n1:=af (K.aN (p:=⟨w.heap.size+1,k,ns⟩) Da (U O v));have n4:=af (t.set (p:=⟨w.heap.size+1,k,ns⟩) Db (U O v));clear K t r d C L;exact LS
  ·have h:k=16:=by omega
   subst h;rw[sQ] at r;have t8:=PD a i j;change Bl wr (w.heap.size+1) (mu a i j) at r;generalize D:mu a i j=vs at r t8⊢;have If:=af D;clear D;have K4:=af t;clear t;exact zj
end
section
open Go.RowKit
def nU(W H:Int)(xs:List Int)(x y:Int):Int:=
 if x%2=0 then(if y%2=0 then bF W H xs (x/2) (y/2) else(bF W H xs (x/2) (y/2)+bF W H xs (x/2) (y/2+1)+1)/2)
 else(if y%2=0 then(bF W H xs (x/2) (y/2)+bF W H xs (x/2+1) (y/2)+1)/2
  else(bF W H xs (x/2) (y/2)+bF W H xs (x/2+1) (y/2)+bF W H xs (x/2) (y/2+1)+bF W H xs (x/2+1) (y/2+1)+2)/4)
def abm{x y:Int}(c:Nat)(p:Rd w B A xs)(r:B<=w.heap.size)(s:Hid (xs.length=n))(j:Hid (bU W H xs=AT))(M: -1000000<=x)(N:x<=1000000)(P: -1000000<=y)(R:y<=1000000):
  aiK Gz.prog 178 #[a9 #[U O W,U O H,Y A n c],U O x,U O y] w λe w'=>e=be (U O (nU W H xs x y))/\Q w w':=by
 have q0:Q w (w.alloc (ac #[U O W,U O H,Y A n c] 40)):=aU;have k:=(ak.new w 40 #[U O W,U O H,Y A n c]);have T:Hid (∀(z:eM (w.alloc (ac #[U O W,U O H,Y A n c] 40)))(u v:Int),aiK Gz.prog 179 #[a9 #[U O W,U O H,Y A n c],U O u,U O v] z.at_ λe w'=>e=be (U O (bF W H xs u v))/\Q z.at_ w'):=λz u v=>RY u v c (p.q (q0.trans z.q) r) (aI r (q0.trans z.q).size) s j;have S:Hid (∀u v,0<=bF W H xs u v/\bF W H xs u v<=255):=λu v=>nS j.out u v;have V:=k.fG;have X:=k.cell;clear p k j;obtain⟨a,t⟩:∃a,x/2=a:=⟨_,rfl⟩;obtain⟨b,C⟩:∃b,y/2=b:=⟨_,rfl⟩;have D:0<=bF W H xs a b/\bF W H xs a b<=255:=S.out a b;have E:=S.out (a+1) b;have F:=S.out a (b+1);have G:=S.out (a+1) (b+1);unfold nU;rw[t,C];have T0:=af λz=>T.out z a b;have T1:=af λz=>T.out z (a+1) b;have T2:=af λz=>T.out z a (b+1);have T3:=af λz=>T.out z (a+1) (b+1);generalize bF W H xs a b=d at D T0⊢;generalize bF W H xs (a+1) b=s1 at E T1⊢;generalize bF W H xs a (b+1)=s2 at F T2⊢;generalize bF W H xs (a+1) (b+1)=h at G T3⊢;obtain⟨a1,BT⟩:∃a1,a+1=a1:=⟨_,rfl⟩;obtain⟨b1,rt⟩:∃b1,b+1=b1:=⟨_,rfl⟩;rw[BT] at T1 T3;rw[rt] at T2 T3;clear T S;have Z:EV.wrap (d+s1)=d+s1:=aB _ ⟨aa,aa⟩;have w2:EV.wrap (d+s2)=d+s2:=aB _ ⟨aa,aa⟩;have w3:EV.wrap (d+s1+1)=d+s1+1:=aB _ ⟨aa,aa⟩;have w4:EV.wrap (d+s2+1)=d+s2+1:=aB _ ⟨aa,aa⟩;have w5:EV.wrap (d+s1+s2)=d+s1+s2:=aB _ ⟨aa,aa⟩;have w6:EV.wrap (d+s1+s2+h)=d+s1+s2+h:=aB _ ⟨aa,aa⟩;have I:EV.wrap (d+s1+s2+h+2)=d+s1+s2+h+2:=aB _ ⟨aa,aa⟩;have d1:(d+s1+1).tdiv 2=(d+s1+1)/2:=j8 aa;have d2:(d+s2+1).tdiv 2=(d+s2+1)/2:=j8 aa;have d3:(d+s1+s2+h+2).tdiv 4=(d+s1+s2+h+2)/4:=j8 aa;have g1:EV.wrap ((d+s1+1)/2)=(d+s1+1)/2:=aB _ ⟨aa,aa⟩;have g2:EV.wrap ((d+s2+1)/2)=(d+s2+1)/2:=aB _ ⟨aa,aa⟩;have g3:EV.wrap ((d+s1+s2+h+2)/4)=(d+s1+s2+h+2)/4:=aB _ ⟨aa,aa⟩;by_cases uJ:x%2=0;all_goals by_cases uK:y%2=0
 ·rw[if_pos uJ,if_pos uK];have l:(x+1)/2=a:=aa;have o:(y+1)/2=b:=aa;clear uJ uK BT rt;go_enter Gz.gf func178,ntmps178;go_wp2;refine(T0.out ⟨_,Q.refl _⟩).mono ?_;rintro e I⟨rfl,J⟩;go_wp2;go_ret;exact⟨rfl,q0.trans J⟩
 ·rw[if_pos uJ,if_neg uK];have l:(x+1)/2=a:=aa;have o:(y+1)/2=b1:=aa;have K:(b==b1)=Bz:=vi;exact DJ
 ·rw[if_neg uJ,if_pos uK];have l:(x+1)/2=a1:=aa;have o:(y+1)/2=b:=aa;have L:(a==a1)=Bz:=vi;exact DJ
 ·rw[if_neg uJ,if_neg uK];have l:(x+1)/2=a1:=aa;have o:(y+1)/2=b1:=aa;have L:(a==a1)=Bz:=vi;have K:(b==b1)=Bz:=vi;exact DJ
theorem TY(x:Int):x.tmod 2=0<->x%2=0:=by grind
def abn{x y:Int}(c:Nat)(hx:Rd w B A xs)(hB:B<=w.heap.size)(hn:Hid (xs.length=n))(V:Hid (bU W H xs=AT))(x1: -1000000<=x)(x2:x<=1000000)(y1: -1000000<=y)(y2:y<=1000000):
  aiK Gz.prog 135 #[a9 #[U O W,U O H,Y A n c],U O x,U O y] w λe w'=>e=be (U O (nU W H xs x y))/\Q w w':=by
 have E:Q w (w.alloc (ac #[U O W,U O H,Y A n c] 40)):=aU;have F:=(ak.new w 40 #[U O W,U O H,Y A n c]);have T:Hid (∀(z:eM (w.alloc (ac #[U O W,U O H,Y A n c] 40)))(u v:Int),aiK Gz.prog 160 #[a9 #[U O W,U O H,Y A n c],U O u,U O v] z.at_ λe w'=>e=be (U O (bF W H xs u v))/\Q z.at_ w'):=λz u v=>aeK u v c (hx.q (E.trans z.q) hB) (aI hB (E.trans z.q).size) hn V;have S:Hid (∀u v,0<=bF W H xs u v/\bF W H xs u v<=255):=λu v=>nS V.out u v;have ba:=F.fG;have bc:=F.cell;clear hx V;obtain⟨a,G⟩:∃a,x/2=a:=⟨_,rfl⟩;obtain⟨b,I⟩:∃b,y/2=b:=⟨_,rfl⟩;have m0:0<=bF W H xs a b/\bF W H xs a b<=255:=S.out a b;have m1:=S.out (a+1) b;have m2:=S.out a (b+1);have m3:=S.out (a+1) (b+1);unfold nU;rw[G,I];have J:=af λz=>T.out z a b;have K:=af λz=>T.out z (a+1) b;have L:=af λz=>T.out z a (b+1);have M:=af λz=>T.out z (a+1) (b+1);generalize bF W H xs a b=d at m0 J⊢;generalize bF W H xs (a+1) b=s1 at m1 K⊢;generalize bF W H xs a (b+1)=s2 at m2 L⊢;generalize bF W H xs (a+1) (b+1)=r at m3 M⊢;obtain⟨s,BT⟩:∃s,a+1=s:=⟨_,rfl⟩;obtain⟨t,rt⟩:∃t,b+1=t:=⟨_,rfl⟩;rw[BT] at K M;rw[rt] at L M;clear T S;have w1:EV.wrap (d+s1)=d+s1:=aB _ ⟨aa,aa⟩;have w2:EV.wrap (d+s2)=d+s2:=aB _ ⟨aa,aa⟩;have w3:EV.wrap (d+s1+1)=d+s1+1:=aB _ ⟨aa,aa⟩;have w4:EV.wrap (d+s2+1)=d+s2+1:=aB _ ⟨aa,aa⟩;have w5:EV.wrap (d+s1+s2)=d+s1+s2:=aB _ ⟨aa,aa⟩;have w6:EV.wrap (d+s1+s2+r)=d+s1+s2+r:=aB _ ⟨aa,aa⟩;have C:EV.wrap (d+s1+s2+r+2)=d+s1+s2+r+2:=aB _ ⟨aa,aa⟩;have d1:(d+s1+1).tdiv 2=(d+s1+1)/2:=j8 aa;have d2:(d+s2+1).tdiv 2=(d+s2+1)/2:=j8 aa;have d3:(d+s1+s2+r+2).tdiv 4=(d+s1+s2+r+2)/4:=j8 aa;have g1:EV.wrap ((d+s1+1)/2)=(d+s1+1)/2:=aB _ ⟨aa,aa⟩;have g2:EV.wrap ((d+s2+1)/2)=(d+s2+1)/2:=aB _ ⟨aa,aa⟩;have g3:EV.wrap ((d+s1+s2+r+2)/4)=(d+s1+s2+r+2)/4:=aB _ ⟨aa,aa⟩;have l:=TY x;have o:=TY y;have N:=af λw=>FV x 2 w aa aa aa aa;have P:=af λw=>FV y 2 w aa aa aa aa;rw[G] at N;rw[I] at P;by_cases j:x%2=0;all_goals by_cases k:y%2=0
 ·rw[if_pos j,if_pos k];have ex:(x.tmod 2==0)=AT:=by rw[beq_iff_eq];exact l.2 j
  have X:(y.tmod 2==0)=AT:=by rw[beq_iff_eq];exact o.2 k
  have Z:EV.wrap (a+1)=s:=yN;have c2:EV.wrap (b+1)=t:=zc;clear j k l o G I;have A1:=af BT;have B1:=af rt;clear BT rt;go_enter Gz.gf func135,ntmps135;go_wp2;refine(N.out _).mono ?_;rintro e w'⟨rfl,rfl⟩;go_wp2;refine(P.out _).mono ?_;rintro e w'⟨rfl,rfl⟩;go_wp2;refine(J.out ⟨_,Q.refl _⟩).mono ?_;rintro e C⟨rfl,p⟩;have D:=E.trans p;go_wp2;go_ret;exact⟨rfl,D⟩
 ·rw[if_pos j,if_neg k];have ex:(x.tmod 2==0)=AT:=by rw[beq_iff_eq];exact l.2 j
  have X:(y.tmod 2==0)=Bz:=by rw[beq_eq_false_iff_ne];exactλh=>k (o.1 h)
  have Z:EV.wrap (a+1)=s:=yN;have c2:EV.wrap (b+1)=t:=zc;clear j k l o G I;have A1:=af BT;have B1:=af rt;clear BT rt;go_enter Gz.gf func135,ntmps135;go_wp2;refine(N.out _).mono ?_;rintro e w'⟨rfl,rfl⟩;go_wp2;refine(P.out _).mono ?_;rintro e w'⟨rfl,rfl⟩;go_wp2;refine(J.out ⟨_,Q.refl _⟩).mono ?_;rintro e C⟨rfl,p⟩;have D:=E.trans p;have bc:=F.pe p;go_wp2;refine(L.out ⟨_,p⟩).mono ?_;rintro e w8⟨rfl,R⟩;go_wp2;go_ret;exact⟨rfl,D.trans R⟩
 ·rw[if_neg j,if_pos k];have ex:(x.tmod 2==0)=Bz:=by rw[beq_eq_false_iff_ne];exactλh=>j (l.1 h)
  have X:(y.tmod 2==0)=AT:=by rw[beq_iff_eq];exact o.2 k
  have Z:EV.wrap (a+1)=s:=yN;have c2:EV.wrap (b+1)=t:=zc;clear j k l o G I;have A1:=af BT;have B1:=af rt;clear BT rt;go_enter Gz.gf func135,ntmps135;go_wp2;refine(N.out _).mono ?_;rintro e w'⟨rfl,rfl⟩;go_wp2;refine(P.out _).mono ?_;rintro e w'⟨rfl,rfl⟩;go_wp2;refine(J.out ⟨_,Q.refl _⟩).mono ?_;rintro e C⟨rfl,p⟩;have D:=E.trans p;have bc:=F.pe p;go_wp2;refine(K.out ⟨_,p⟩).mono ?_;rintro e w8⟨rfl,R⟩;go_wp2;go_ret;exact⟨rfl,D.trans R⟩
 ·rw[if_neg j,if_neg k];have ex:(x.tmod 2==0)=Bz:=by rw[beq_eq_false_iff_ne];exactλh=>j (l.1 h)
  have X:(y.tmod 2==0)=Bz:=by rw[beq_eq_false_iff_ne];exactλh=>k (o.1 h)
  have Z:EV.wrap (a+1)=s:=yN;have c2:EV.wrap (b+1)=t:=zc;clear j k l o G I;have A1:=af BT;have B1:=af rt;clear BT rt;go_enter Gz.gf func135,ntmps135;go_wp2;refine(N.out _).mono ?_;rintro e w'⟨rfl,rfl⟩;go_wp2;refine(P.out _).mono ?_;rintro e w'⟨rfl,rfl⟩;go_wp2;refine(J.out ⟨_,Q.refl _⟩).mono ?_;rintro e C⟨rfl,p⟩;have D:=E.trans p;have ba:=λ(z:eM C)=>F.pe (p.trans z.q);have K:=af λ(z:eM C)=>K.out ⟨z.at_,p.trans z.q⟩;have L:=af λ(z:eM C)=>L.out ⟨z.at_,p.trans z.q⟩;have M:=af λ(z:eM C)=>M.out ⟨z.at_,p.trans z.q⟩;clear F;go_wp2;refine pS ah ah ?_;repeat(go_big_quiet_step (first|(go_at_call_of 160 s;go_at_call_of 160 t;with_reducible exact Calls.fG (M.out _))|(go_at_call_of 160 s;with_reducible exact Calls.fG (K.out _))|(go_at_call_of 160 t;with_reducible exact Calls.fG (L.out _))|(go_at_call_of 160 a;with_reducible exact Calls.fG (J.out _))))
  refine wpQuiet_nil ?_;rintro _⟨⟨w8,R⟩,rfl⟩;go_wp2;go_ret;exact⟨rfl,D.trans R⟩
end
section
open Go.RowKit
def qX(W H:Int)(xs:List Int)(x y vx vy:Int)(k:Nat):Int:=nU W H xs (2*(x+(k%8:Nat))+vx) (2*(y+(k/8:Nat))+vy)
def lG(W H:Int)(xs:List Int)(x y vx vy:Int):List Int:=a6 (qX W H xs x y vx vy) 64
def aeO(h:bU W H xs=AT){x y:Int}:0<=nU W H xs x y/\nU W H xs x y<=255:=by have a:=nS h (x/2) (y/2);have b:=nS h (x/2+1) (y/2);have c:=nS h (x/2) (y/2+1);have d:=nS h (x/2+1) (y/2+1);unfold nU;split<;>split<;>omega
def R0(W H:Int)(xs:List Int)(x y vx vy:Int)(j:Nat)(hi:i<8):qX W H xs x y vx vy (j*8+i)=nU W H xs (2*(x+(i:Int))+vx) (2*(y+(j:Int))+vy):=by unfold qX;rw[show(j*8+i)%8=i by omega,show(j*8+i)/8=j by omega]
def wD{x y:Int}:(lG W H xs x y vx vy).length=64:=aD
def afL(h:bU W H xs=AT){x y:Int}(k:Nat):0<=(lG W H xs x y vx vy)[k]?.getD 0/\(lG W H xs x y vx vy)[k]?.getD 0<=255:=by
 by_cases a:k<64
 ·unfold lG;rw[oX a];exact aeO h
 ·rw[List.getElem?_eq_none (by rw[wD];omega)];simp
def aac (x y:Int) (c:Nat) (p : Rd w B A xs) (N : B ≤ w.heap.size) (P : Hid (xs.length = n)) (R : Hid (bU W H xs = AT))
    (x1 : 0 ≤ x) (x2 : x ≤ 32) (y1 : 0 ≤ y) (y2 : y ≤ 32) (S : -16 ≤ vx) (T : vx ≤ 16) (V : -16 ≤ vy) (X : vy ≤ 16) :
    aiK Gz.prog 152 #[a9 #[U O W, U O H, Y A n c], U O x, U O y, a9 #[U O vx, U O vy]] w fun e w' => ∃ v, e = be v ∧ Own w' w.heap.size v 64 (lG W H xs x y vx vy) ∧ Q w w' := by
  have r : Q w ((w.alloc (ac #[U O W, U O H, Y A n c] 40)).alloc (ac #[U O vx, U O vy] 92)) := (by repeat (first | exact Q.refl _ | assumption | refine Q.drewN ?_ _ | refine Q.drew ?_ | refine Q.alloc ?_ _ | refine Q.trans ?_ (by assumption) | refine Q.set ?_ (by first | exact av _ | omega | (simp; done) | (simp; omega)) _))
  have J := (ak.new w 40 #[U O W, U O H, Y A n c]).alloc (ac #[U O vx, U O vy] 92)
  have bv := ak.new (w.alloc (ac #[U O W, U O H, Y A n c] 40)) 92 #[U O vx, U O vy]
  rw [OF] at bv
  have s : w.heap.size + 2 ≤ ((w.alloc (ac #[U O W, U O H, Y A n c] 40)).alloc (ac #[U O vx, U O vy] 92)).heap.size := by simp
  replace p := p.q r N
  go_enter Gz.gf func152, ntmps152
  go_wp2_with (at_make; generalize (w.alloc (ac #[U O W, U O H, Y A n c] 40)).alloc (ac #[U O vx, U O vy] 92) = d at r J bv p s ⊢; refine W4 rfl rfl 64 rfl rfl aa aa (Q.refl d) ?_; intro w1 K hq Z)
  have t : B ≤ d.heap.size := by omega
  go_loopw [9, 13] (fun v i wr => ∃ j : Nat, j ≤ 8 ∧ i = U O j ∧ Own wr d.heap.size v (j * 8) (a6 (qX W H xs x y vx vy) (j * 8)) ∧ Q d wr) (fun _ i _ => 8 - (alq i).toNat)
  case atStart => exact ⟨0, dk _, rfl, by rw [Nat.zero_mul]; exact K, hq⟩
  case round =>
    obtain ⟨j, hj, rfl, l, o⟩ := hrel
    clear K hq Z
    by_cases aV : j < 8
    · obtain ⟨L, rfl⟩ : ∃ L : AS, L = wr := ⟨_, rfl⟩
      have M : decide ((j : Int) < 8) = AT := by simp; omega
      go_wp2
      go_loopw [9, 16] (fun v i wr => ∃ k : Nat, k ≤ 8 ∧ i = U O k ∧ Own wr d.heap.size v (j * 8 + k) (a6 (qX W H xs x y vx vy) (j * 8 + k)) ∧ Q d wr) (fun _ i _ => 8 - (alq i).toNat)
      case atStart => exact ⟨0, dk _, rfl, l, o⟩
      case round =>
        obtain ⟨k, rx, rfl, b, a⟩ := hrel
        clear l o
        by_cases z : k < 8
        · have C := J.pe a
          have D := bv.pe a
          have E := a.size
          go_wp2
          refine (abm c (p.q a t) aa P R aa aa aa aa).mono ?_; rintro e w7 ⟨rfl, F⟩
          replace b := b.q F
          replace a := a.trans F
          replace E := a.size
          clear C D F
          go_wp2_with ((at_builtin; refine uS rfl rfl d d.heap.size rfl (b.alloc _) ⟨_, 0, ns⟩ rfl rY rY rY (a.alloc _) (vA _ _ _ _) ?_; intro v' w' G I ra _; skip))
          go_roundw
          case rel => exact ⟨k + 1, by omega, by go_num, by have h := G; rw [← R0 W H xs x y vx vy j z, ← PS] at h; exact h, I⟩
          case measure => simp [alq]; omega
        · go_wp2
          go_roundw
          case rel => exact ⟨j + 1, by omega, by go_num, by have e : k = 8 := by omega
                                                            subst e; rw [Nat.succ_mul]; exact b, a⟩
          case measure => simp [alq]; omega
    · go_wp2
      go_ret
      have e : j = 8 := by omega
      subst e
      exact ⟨_, rfl, l.mono aa, r.trans o⟩
def aad (x y:Int) (c:Nat) (p : Rd w B A xs) (P : B ≤ w.heap.size) (R : Hid (xs.length = n)) (S : Hid (bU W H xs = AT))
    (x1 : 0 ≤ x) (x2 : x ≤ 32) (y1 : 0 ≤ y) (y2 : y ≤ 32) (T : -16 ≤ vx) (V : vx ≤ 16) (X : -16 ≤ vy) (Z : vy ≤ 16) :
    aiK Gz.prog 95 #[a9 #[U O W, U O H, Y A n c], U O x, U O y, a9 #[U O vx, U O vy]] w fun e w' => ∃ v, e = be v ∧ Own w' w.heap.size v 64 (lG W H xs x y vx vy) ∧ Q w w' := by
  have r : Q w ((w.alloc (ac #[U O W, U O H, Y A n c] 40)).alloc (ac #[U O vx, U O vy] 92)) := (by repeat (first | exact Q.refl _ | assumption | refine Q.drewN ?_ _ | refine Q.drew ?_ | refine Q.alloc ?_ _ | refine Q.trans ?_ (by assumption) | refine Q.set ?_ (by first | exact av _ | omega | (simp; done) | (simp; omega)) _))
  have K := (ak.new w 40 #[U O W, U O H, Y A n c]).alloc (ac #[U O vx, U O vy] 92)
  have bv := ak.new (w.alloc (ac #[U O W, U O H, Y A n c] 40)) 92 #[U O vx, U O vy]
  rw [OF] at bv
  have s : w.heap.size + 2 ≤ ((w.alloc (ac #[U O W, U O H, Y A n c] 40)).alloc (ac #[U O vx, U O vy] 92)).heap.size := by simp
  have L : Hid (((w.alloc (ac #[U O W, U O H, Y A n c] 40)).alloc (ac #[U O vx, U O vy] 92)).heap.size = w.heap.size + 1 + 1) := by unfold Hid; simp
  replace p := p.q r P
  go_enter Gz.gf func95, ntmps95
  have t := Own.iV ((w.alloc (ac #[U O W, U O H, Y A n c] 40)).alloc (ac #[U O vx, U O vy] 92)) ((w.alloc (ac #[U O W, U O H, Y A n c] 40)).alloc (ac #[U O vx, U O vy] 92)).heap.size (av _)
  have hq := (Q.refl ((w.alloc (ac #[U O W, U O H, Y A n c] 40)).alloc (ac #[U O vx, U O vy] 92))).alloc (ac #[] 3)
  go_wp2
  generalize (w.alloc (ac #[U O W, U O H, Y A n c] 40)).alloc (ac #[U O vx, U O vy] 92) = d at r K bv p s t hq L ⊢
  have z : B ≤ d.heap.size := by omega
  go_loopw [9, 10] (fun v i wr => ∃ j : Nat, j ≤ 8 ∧ i = U O j ∧ Own wr d.heap.size v (j * 8) (a6 (qX W H xs x y vx vy) (j * 8)) ∧ Q d wr) (fun _ i _ => 8 - (alq i).toNat)
  case atStart => exact ⟨0, dk _, rfl, by rw [Nat.zero_mul]; have h := t; rw [L.out] at h ⊢; exact h, hq⟩
  case round =>
    obtain ⟨j, hj, rfl, l, o⟩ := hrel
    clear t hq
    by_cases aV : j < 8
    · obtain ⟨M, rfl⟩ : ∃ M : AS, M = wr := ⟨_, rfl⟩
      have N : decide ((j : Int) < 8) = AT := by simp; omega
      go_wp2
      go_loopw [9, 11] (fun v i wr => ∃ k : Nat, k ≤ 8 ∧ i = U O k ∧ Own wr d.heap.size v (j * 8 + k) (a6 (qX W H xs x y vx vy) (j * 8 + k)) ∧ Q d wr) (fun _ i _ => 8 - (alq i).toNat)
      case atStart => exact ⟨0, dk _, rfl, l, o⟩
      case round =>
        obtain ⟨k, rx, rfl, b, a⟩ := hrel
        clear l o
        by_cases C : k < 8
        · have D := K.pe a
          have E := bv.pe a
          have F := a.size
          go_wp2
          refine (abn c (p.q a z) aa R S aa aa aa aa).mono ?_; rintro e w7 ⟨rfl, G⟩
          replace b := b.q G
          replace a := a.trans G
          replace F := a.size
          clear D E G
          go_wp2_with ((at_builtin; refine uS rfl rfl d d.heap.size rfl (b.alloc _) ⟨_, 0, ns⟩ rfl rY rY rY (a.alloc _) (vA _ _ _ _) ?_; intro v' w' I J ra _; skip))
          go_roundw
          case rel => exact ⟨k + 1, by omega, by go_num, by have h := I; rw [← R0 W H xs x y vx vy j C, ← PS] at h; exact h, J⟩
          case measure => simp [alq]; omega
        · go_wp2
          go_roundw
          case rel => exact ⟨j + 1, by omega, by go_num, by have e : k = 8 := by omega
                                                            subst e; rw [Nat.succ_mul]; exact b, a⟩
          case measure => simp [alq]; omega
    · go_wp2
      go_ret
      have e : j = 8 := by omega
      subst e
      exact ⟨_, rfl, l.mono aa, r.trans o⟩
end
section
open Go.RowKit
def nth(m:List Int)(i:Nat):Int:=m[i]?.getD 0
def kL(W H:Nat)(ref xs:List Int)(x y a:Nat)(m:List Int)(k:Nat):List Int:=
 if nth m 0=2 then
  mI (nth m (3+k)).toNat (eA W H xs (x+k%2*4:Nat) (y+k/2*4:Nat) (decide (a<y+k/2*4))) (eL W H xs (x+k%2*4:Nat) (y+k/2*4:Nat) (decide (0<x+k%2*4)))
   (eC W H xs (x+k%2*4:Nat) (y+k/2*4:Nat) (decide (a<y+k/2*4)) (decide (0<x+k%2*4))) (decide (a<y+k/2*4)) (decide (0<x+k%2*4))
 else mu (lG W H ref x y (nth m 1) (nth m 2)) (k%2*4) (k/2*4)
def ef(W H:Nat)(ref:List Int)(x y a:Nat)(m:List Int)(q:Int):Nat->List Int->List Int
 |0,xs=>xs
 |k+1,xs=>iO W (x+k%2*4) (y+k/2*4) (kL W H ref (ef W H ref x y a m q k xs) x y a m k) (gY (sub m (7+16*k) 16) q) 16 (ef W H ref x y a m q k xs)
def iu(W H:Nat)(ref:List Int)(row:Nat)(L:List Int)(q:Int):Nat->List Int->List Int
 |0,xs=>xs
 |k+1,xs=>ef W H ref (k*8) (row*8) (row*8) (sub L (71*k) 71) q 4 (iu W H ref row L q k xs)
def iJ(W H:Nat)(ref:List Int)(a:Nat->List Int)(q:Int):Nat->List Int->List Int
 |0,xs=>xs
 |k+1,xs=>iu W H ref k (a k) q (W/8) (iJ W H ref a q k xs)
def Aw(W H:Nat)(ref:List Int)(x y a:Nat)(m:List Int)(q:Int)(xs:List Int):∀k,(ef W H ref x y a m q k xs).length=xs.length
 |0=>rfl
 |k+1=>by rw[ef,QE,Aw W H ref x y a m q xs k]
def Ax(W H:Nat)(ref:List Int)(x y a:Nat)(m:List Int)(q:Int){xs:List Int}(h:dm xs=AT):∀k,dm (ef W H ref x y a m q k xs)=AT
 |0=>h
 |k+1=>by rw[ef];exact QF _ _ _ _ _ (Ax W H ref x y a m q h k) _
def Ay(W H:Nat)(ref:List Int)(row:Nat)(L:List Int)(q:Int)(xs:List Int):∀k,(iu W H ref row L q k xs).length=xs.length
 |0=>rfl
 |k+1=>by rw[iu,Aw,Ay W H ref row L q xs k]
def Az(W H:Nat)(ref:List Int)(row:Nat)(L:List Int)(q:Int){xs:List Int}(h:dm xs=AT):∀k,dm (iu W H ref row L q k xs)=AT
 |0=>h
 |k+1=>by rw[iu];exact Ax _ _ _ _ _ _ _ _ (Az W H ref row L q h k) _
def z8(W H:Nat)(ref:List Int)(a:Nat->List Int)(q:Int)(xs:List Int):∀k,(iJ W H ref a q k xs).length=xs.length
 |0=>rfl
 |k+1=>by rw[iJ,Ay,z8 W H ref a q xs k]
def Aa(W H:Nat)(ref:List Int)(a:Nat->List Int)(q:Int){xs:List Int}(h:dm xs=AT):∀k,dm (iJ W H ref a q k xs)=AT
 |0=>h
 |k+1=>by rw[iJ];exact Az _ _ _ _ _ _ (Aa W H ref a q h k) _
def qo{W H:Nat}{ys:List Int}(h:bU W H xs=AT)(a:ys.length=xs.length)(b:dm ys=AT):bU W H ys=AT:=by obtain⟨h1,d,e,_⟩:=kg h;unfold bU dO;rw[a,decide_eq_true h1,decide_eq_true d,decide_eq_true e,b];rfl
def NX(h:∀k,k<xs.length->0<=xs[k]?.getD 0/\xs[k]?.getD 0<=255):aS xs 100000=AT:=by unfold aS;rw[aju];intro x b;obtain⟨k,a,rfl⟩:=List.mem_iff_getElem.1 b;have:=h k a;rw[ajK a] at this;exact decide_eq_true ⟨by have:=this.1;simp at this;omega,by have:=this.2;simp at this;omega⟩
def afM{M:Int}(h:∀k,k<xs.length-> -M<=xs[k]?.getD 0/\xs[k]?.getD 0<=M):aS xs M=AT:=by unfold aS;rw[aju];intro x b;obtain⟨k,a,rfl⟩:=List.mem_iff_getElem.1 b;have:=h k a;rw[ajK a] at this;exact decide_eq_true this
def R3{q:Int}:aS (gY xs q) 100000=AT:=by
 unfold gY;split
 ·refine afM λk b=>?_;have a:k<16:=aG
  have hc:cY (a6 (gX xs (step q.toNat)) 16) 4080:=λi=>by
   by_cases hi:i<16
   ·rw[oX hi];exact GO aa
   ·rw[List.getElem?_eq_none (by rw[Ep];omega)];simp
  have h:=Fo hc aa k;unfold kG;rw[oX a];omega
 ·decide
def aeP(h:EB f g c):0<=kK m f g c u v x y/\kK m f g c u v x y<=255:=by
 have e:∀d:Nat->Int,(∀k,0<=d k/\d k<=255)->∀k:Nat,0<=sm d k/\sm d k<=255*k:=λd j k=>by induction k with|zero=>simp[sm]|succ k l=>have:=j k;simp only[sm];omega
 unfold kK;split
 ·have a:=e f h.1 4;have b:=e g h.2.1 4;cases u<;>cases v<;>simp[mX,mN,mT]<;>omega
 split
 ·exact h.1 x
 split
 ·exact h.2.1 y
 split
 ·have a:=nT h (4+x-y-1);have b:=nT h (4+x-y);have c:=nT h (4+x-y+1);unfold pz;omega
 ·unfold B4 dI;omega
def Hh(h:bU W H xs=AT)(x y:Int):EB (eA W H xs x y u) (eL W H xs x y v) (eC W H xs x y u v):=⟨λk=>agP h x y u k,λk=>agQ h x y v k,agR h x y u v⟩
def aeQ(h:EB f g c):aS (mI m f g c u v) 100000=AT:=NX λk b=>by have a:k<16:=aG;unfold mI mH;rw[oX a];exact aeP h
def ac3{b:List Int}{j:Nat}(h:∀k:Nat,0<=b[k]?.getD 0/\b[k]?.getD 0<=255):aS (mu b i j) 100000=AT:=NX λk d=>by have a:k<16:=aG;unfold mu mY;rw[oX a];exact h _
def Tb.az{w':AS}{S:List Nat}(h:Tb w)(k:au S w w')(a:4∉S):Tb w':=⟨bH h.pos k.size,λq b=>(nK k h.pos a).trans (h.at_ q b)⟩
def Bl.az{w':AS}{S:List Nat}{g:Nat}(h:Bl w g xs)(k:au S w w')(a:g∉S):Bl w' g xs:=⟨h.blk.az k a,h.len⟩
def QG(W H:Nat)(ref xs:List Int)(x y a:Nat)(m:List Int)(k:Nat):(kL W H ref xs x y a m k).length=16:=by
 unfold kL;split
 ·rfl
 ·rfl
def R4{W H:Nat}{ref:List Int}(x y a:Nat){m:List Int}(k:Nat)(b:bU W H xs=AT)(hr:nth m 0≠2->bU W H ref=AT):aS (kL W H ref xs x y a m k) 100000=AT:=by
 unfold kL;split
 ·exact aeQ (Hh b _ _)
 ·rename_i h;exact ac3 (afL (hr h))
end
end Go.Proofs.Q0
