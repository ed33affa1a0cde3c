import Derived.Test.YtnbpokndlaebbaaGreatDoorK24
set_option maxRecDepth 100000
set_option maxHeartbeats 8000000
set_option linter.all false
open Go.Value renaming int->U,slice->Y,bool->ci,agg->bi,pointer->d9,tuple->em,iface->gc
open Go.IntKind renaming i64->O
open Go.Obj renaming cells->ap
open Go.Ending renaming returned->dl
open Bool renaming false->Ba,true->AT
open Go renaming Calls->ahR,Value->AS,World->rl,bodyPost_end->ajY
open Go.IntKind renaming i64->EV
open Go.RowKit renaming intOf->ajZ
open Go.World renaming size_alloc->NO
open Int renaming natCast_mul->akE
open List renaming all_eq_true->aia,getElem?_eq_getElem->ajR,replicate->so
open Nat renaming le_refl->akf
open Option renaming none->ns,some->an
namespace Go.Proofs
def CX{p:Prop}(h:p:=by rw[Int.tmod_eq_emod_of_nonneg (by omega)];exact dr):p:=h
def yQ{p:Prop}(h:p:=by go_wp2_with(first|(first|refine eY rfl rfl rfl aE ?_|refine eU aC rfl rfl aE ?_)|(refine iG rfl _ _ rfl _ rfl _ _ rfl dn aE ?_;intro w9 b9 g9 s9));refine bodyPost_ret (v:=bi (arr _)) (results_cell_row aC _ _ _ _ _ _ _ aC (Bl.blk b9) (Gz.gu underlying97) rfl (by rw[bP,ul];exact lD)) rfl ⟨by rw[JT.out],K4.out.grown g9 λk e=>by have:=aH e;omega⟩):p:=h
def yp{p:Prop}(h:p:=by show w.heap.size≠w.heap.size+1;omega):p:=h
def yq{p:Prop}(h:p:=by show w.heap.size<=w.heap.size+1;omega):p:=h
def Ld{p:Prop}(h:p:=by
  go_wp2;go_roundw;case rel=>exact⟨k+1,aa,aJ,n1.out,n4.out,n5.out⟩
  case measure=>simp[intOf];omega):p:=h
def uN{p:Prop}(h:p:=by rw[beq_eq_false_iff_ne];omega):p:=h
def Ds{p:Prop}(h:p:=by
  clear uw ux DP nl;go_enter Gz.gf func160,ntmps160;go_wp2;refine uY aj aj ?_;repeat(go_big_quiet_step (first|(go_at_call_of 161 a1;go_at_call_of 161 b1;with_reducible exact Calls.fZ (T3.out _))|(go_at_call_of 161 a1;with_reducible exact Calls.fZ (T1.out _))|(go_at_call_of 161 b1;with_reducible exact Calls.fZ (T2.out _))|(go_at_call_of 161 a;with_reducible exact Calls.fZ (T0.out _))))
  refine wpQuiet_nil ?_;rintro _⟨⟨w7,qq⟩,rfl⟩;go_wp2;go_ret;exact⟨rfl,q0.trans qq⟩):p:=h
def yr{p:Prop}(h:p:=by rw[<-DP];exact IntWalk.i64_in _ ⟨by omega,by omega⟩):p:=h
def yJ{p:Prop}(h:p:=by rw[<-nl];exact IntWalk.i64_in _ ⟨by omega,by omega⟩):p:=h
def rP{p:Prop}(h:p:=by first|exact Nat.le_refl _|omega|(simp;done)|(simp;omega)):p:=h
end Go.Proofs
namespace Go.Proofs.Q0
open Go.Proofs.Tryz
variable{x y m i n B:Nat}{c W H vx vy:Int}{w:rl}{u v:Bool}{f g:Nat->Int}{xs:List Int}{A:Option Addr}
section
open Go.RowKit
def BF(f g:Nat->Int)(c:Int)(x y:Nat):Int:=dG (f x+g y-c) 0 255
def kn(m:Nat)(f g:Nat->Int)(c:Int)(u v:Bool)(x y:Nat):Int:=
 if m=0 then mH f g u v else if m=1 then f x else if m=2 then g y else if m=3 then ph f g c (4+x-y) else BF f g c x y
def mh(m:Nat)(f g:Nat->Int)(c:Int)(u v:Bool)(k:Nat):Int:=kn m f g c u v (k%4) (k/4)
def mi(m:Nat)(f g:Nat->Int)(c:Int)(u v:Bool):List Int:=bk (mh m f g c u v) 16
def PW(m:Nat)(f g:Nat->Int)(c:Int)(u v:Bool):(mi m f g c u v).length=16:=aC
def Zc(f g:Nat->Int)(u v:Bool)(w:rl)(j:x<4)(k:y<4)(a:EB f g c):
  ahR Gz.prog 166 #[bi (aN f g c u v),U O x,U O y] w λe w'=>e=dl (U O (BF f g c x y))/\Q w w':=by
 have q0:Q w (w.alloc (ap (aN f g c u v) 145)):=aU;have b:=ak.new w 145 (aN f g c u v);have l:=(b.cell x).trans (qk f g c u v x j);have cb:=(b.cell (4+y)).trans (ql f g c u v y k);have o:(w.alloc (ap (aN f g c u v) 145)).cell? ⟨w.heap.size,8,ns⟩=an (U O c):=b.cell 8;obtain⟨p,q⟩:=a.1 x;obtain⟨r,s⟩:=a.2.1 y;obtain⟨c0,t⟩:=a.2.2;have d:Hid (BF f g c x y=dG (f x+g y-c) 0 255):=rfl;rw[d.out];clear b a d;go_enter Gz.gf func166,ntmps166;go_wp2
 go_quiet((go_at_call 48;exact ox ((vY _ _ _ _).mono λ_ _ h=>⟨h.1,h.2.symm⟩)))
 exact Lb
def uy(n:Nat):AS:=.func (.func n) #[] #[]
def qU:Array AS:=#[uy 162,uy 163,uy 164,uy 165,uy 166]
def abP:(qU.all λx=>x.oneCell')=AT:=by simp[qU,uy,Value.oneCell']
def adz:(Gz.prog.info? 221).map (·.size)=an qU.size:=aF
def wQ(m:Nat):Nat:=if m=0 then 162 else if m=1 then 163 else if m=2 then 164 else if m=3 then 165 else 166
def aaj(f g:Nat->Int)(u v:Bool)(x y:Nat)(w:rl)(hm:m<5)(a:x<4)(b:y<4)(d:EB f g c):
  ahR Gz.prog (wQ m) #[bi (aN f g c u v),U O x,U O y] w λe w'=>e=dl (U O (kn m f g c u v x y))/\Q w w':=by
 rcases(show m=0\/m=1\/m=2\/m=3\/m=4 by omega) with rfl|rfl|rfl|rfl|rfl
 ·exact aah f g u v w d
 ·exact WQ f g c u v w a
 ·exact Wp f g c u v w b
 ·exact WU f g u v w a b d
 ·exact Zc f g u v w a b d
def adA(hm:m<5):∀(args:Array AS)(w:rl),Sem.run Gz.prog (callFunc (wQ m) args) w=.ok (.enter (wQ m) args) w:=by
 rcases(show m=0\/m=1\/m=2\/m=3\/m=4 by omega) with rfl|rfl|rfl|rfl|rfl
 ·exact(Gz.cl 162)
 ·exact(Gz.cl 163)
 ·exact(Gz.cl 164)
 ·exact(Gz.cl 165)
 ·exact(Gz.cl 166)
def Xy(hm:m<5)(hb:EB f g c):
  ahR Gz.prog 125 #[bi (aN f g c u v),U O m] w λe w'=>e=dl (bi (arr (mi m f g c u v)))/\Q w w':=by
 have F:=((ak.new w 145 (aN f g c u v)).alloc (ap (arr (so 16 0)) 97)).alloc (ap #[.nilFunc,.nilFunc,.nilFunc,.nilFunc,.nilFunc] 221);have s:=(Bl.zero (w.alloc (ap (aN f g c u v) 145))).alloc (ap #[.nilFunc,.nilFunc,.nilFunc,.nilFunc,.nilFunc] 221);have T:=ak.new ((w.alloc (ap (aN f g c u v) 145)).alloc (ap (arr (so 16 0)) 97)) 221 #[.nilFunc,.nilFunc,.nilFunc,.nilFunc,.nilFunc];have G:Q w (((w.alloc (ap (aN f g c u v) 145)).alloc (ap (arr (so 16 0)) 97)).alloc (ap #[.nilFunc,.nilFunc,.nilFunc,.nilFunc,.nilFunc] 221)):=aU;simp only[NO] at s T;have TT:=ag λx y z hx hy=>aaj f g u v x y z hm hx hy hb;clear hb;have FC:Hid (∀z:rl,ak z (w.heap.size+1+1) 221 qU->z.cell? ⟨w.heap.size+1+1,m,ns⟩=an (.func (.func (wQ m)) #[] #[])):=λz h=>(h.cell m).trans (by rcases(show m=0\/m=1\/m=2\/m=3\/m=4 by omega) with rfl|rfl|rfl|rfl|rfl<;>rfl);have Un:(m:Int)<5:=aa;go_enter Gz.gf func125,ntmps125;go_wp2_with(refine eH (cs':=qU) rfl _ _ _ rfl rfl _ rfl rfl T rfl abP adz ?_;intro l P R V;replace F:=F.grown R (λe=>by have:=aH e;omega);replace s:=s.grown R (λe=>by have:=aH e;omega);replace G:=G.grown R (λk e=>by have:=aH e;omega);replace V:w.heap.size+1+1+1<=l.heap.size:=(by rw[V];simp only[NO];omega);clear R T);have X:=Bl.zero l;replace F:=F.alloc (ap (arr (so 16 0)) 97);replace s:=s.alloc (ap (arr (so 16 0)) 97);replace P:=P.alloc (ap (arr (so 16 0)) 97);replace G:=G.alloc (ap (arr (so 16 0)) 97);obtain⟨gB,K⟩:∃z,l.heap.size=z:=⟨_,rfl⟩;rw[K] at X V⊢;have K0:Hid (Q w (l.alloc (ap (arr (so 16 0)) 97))/\ak (l.alloc (ap (arr (so 16 0)) 97)) w.heap.size 145 (aN f g c u v)/\Bl (l.alloc (ap (arr (so 16 0)) 97)) (w.heap.size+1) cJ/\ak (l.alloc (ap (arr (so 16 0)) 97)) (w.heap.size+1+1) 221 qU/\Bl (l.alloc (ap (arr (so 16 0)) 97)) gB cJ):=⟨G,F,s,P,X⟩;clear G F s P X K;go_loopw[9] (λi wr=>∃k:Nat,k<=16/\i=U O k/\Hid (Q w wr/\ak wr w.heap.size 145 (aN f g c u v)/\Bl wr (w.heap.size+1) cJ/\ak wr (w.heap.size+1+1) 221 qU/\Bl wr gB (bk (λj=>if j<k then mh m f g c u v j else 0) 16))) (λi _=>16-(ajZ i).toNat)
 case atStart=>exact⟨0,aa,rfl,by rw[sM];exact K0⟩
 case round=>
  obtain⟨k,hk,rfl,hK⟩:=hrel;obtain⟨t,I,S,C,b⟩:=hK.out;clear hK K0;by_cases D:k<16
  ·have o:(k:Int)<16:=by omega
   obtain⟨r,L⟩:∃r,k/4=r:=⟨_,rfl⟩;obtain⟨E,M⟩:∃E,k%4=E:=⟨_,rfl⟩;have d:=sU (mh m f g c u v) k D;have T1:=ag λz=>TT.out E r z aa aa;have hF:mh m f g c u v k=kn m f g c u v E r:=by unfold mh;rw[L,M]
   rw[hF] at d;clear hF;generalize kn m f g c u v E r=val at d T1;have Z:=ag d;have dq:(k:Int)/4=(r:Int):=aa;have dr:(k:Int)%4=(E:Int):=aa;have wq:EV.wrap (r:Int)=(r:Int):=aD _ ⟨aa,aa⟩;have xP:(k:Int).tmod 4=(E:Int):=CX;have z1:=t.size;have d0:∀i,wr.drew.cell? ⟨w.heap.size,i,ns⟩=(#[U O (f 0),U O (f 1),U O (f 2),U O (f 3),U O (g 0),U O (g 1),U O (g 2),U O (g 3),U O c,ci u,ci v]:Array AS)[i]?:=I.cell;have dF:=FC.out wr C;have cF:=adA hm;clear d L M TT;go_wp2;refine eo (λww=>ww.cell? ⟨w.heap.size+1+1,m,ns⟩=an (.func (.func (wQ m)) #[] #[])) (λj=>decide (10<=j)) aj dF λhS=>?_;refine ai 0 (h:=ai 1 (h:=ai 2 (h:=ai 3 (h:=ai 5 (h:=ai 6 (h:=ai 7 (h:=ai 8 (h:=?_))))))));refine bw (k:=4) aj rfl rfl λK2 a=>?_;go_simp;refine a.out _ _ hS λhS=>?_;clear a K2;refine bh ?_;refine bw (k:=9) aj rfl rfl λK2 a=>?_;go_simp;refine(T1.out _).mono ?_;rintro e wa⟨rfl,J⟩;replace t:=t.drew.trans J;replace I:=ak.q (w:=wr.drew) I J;replace S:=(S.q ((Q.refl _).drew)).q J;replace C:=ak.q (w:=wr.drew) C J;replace b:=(b.q ((Q.refl _).drew)).q J;refine a.out _ _ (FC.out _ C) λhS=>?_;clear a K2;refine bh ?_;refine gi [10,11] 10 aj aw rfl ?_;have c3:=b.at k D;have f3:=b.free k;rw[te D (akf _)] at c3;have n5:=ag (b.set k val);rw[Z.out] at n5;have n1:=ag (t.set (p:=⟨gB,k,ns⟩) (by show w.heap.size<=gB;omega) (U O val));have n2:=ag (I.aL (p:=⟨gB,k,ns⟩) (by show w.heap.size≠gB;omega) (U O val));have n3:=ag (S.aL (p:=⟨gB,k,ns⟩) (by show w.heap.size+1≠gB;omega) (U O val));have n4:=ag (C.aL (p:=⟨gB,k,ns⟩) (by show w.heap.size+1+1≠gB;omega) (U O val));clear t I S C b hS dF d0 cF wq xP dq dr J;go_wp2;go_roundw;case rel=>exact⟨k+1,aa,aJ,n1.out,n2.out,n3.out,n4.out,n5.out⟩
   case measure=>exact bj
  ·have o:k=16:=by omega
   subst o;rw[sL] at b;have ul:=PW m f g c u v;change Bl wr gB (mi m f g c u v) at b;generalize N:mi m f g c u v=vs at b ul⊢;have JT:=ag N;clear N;have K4:=ag t;clear t I C;exact yQ
end
section
open Go.RowKit
def iE(W x y:Nat)(p r:List Int):Nat->List Int->List Int
 |0,xs=>xs
 |k+1,xs=>(iE W x y p r k xs).set ((y+k/4)*W+x+k%4) (dG (p[k]?.getD 0+r[k]?.getD 0) 0 255)
def PX(W x y:Nat)(p r xs:List Int):∀k,(iE W x y p r k xs).length=xs.length
 |0=>rfl
 |k+1=>by rw[iE,List.length_set,PX W x y p r xs k]
def FJ(h:dk xs=AT){v:Int}(h1:0<=v)(b:v<=255):dk (xs.set i v)=AT:=by
 unfold dk at h⊢;rw[aia] at h⊢;intro x a;rcases List.mem_or_eq_of_mem_set a with a|rfl
 ·simp_all
 ·exact decide_eq_true ⟨h1,b⟩
def PY(W x y:Nat)(p r:List Int){xs:List Int}(h:dk xs=AT):∀k,dk (iE W x y p r k xs)=AT
 |0=>h
 |k+1=>FJ (PY W x y p r h k) (by unfold dG;omega) (by unfold dG;omega)
def R9{W H k:Nat}(a:x+4<=W)(b:y+4<=H)(d:n=H*W)(e:k<16):(y+k/4)*W+x+k%4<n:=by have:=FO (y+k/4) W H (x+k%4) aa aa;omega
def abQ{W H g c:Nat}{p:List Int}(r:List Int)(N:Own w B (Y (an ⟨g,0,ns⟩) n c) n xs)(hn:n=H*W)(P:n<=1024)(hW:W<=32)(hH:H<=32)(hx:x+4<=W)(hy:y+4<=H)
  (lp:p.length=16)(R:r.length=16)(bp:aW p 100000=AT)(br:aW r 100000=AT):
  ahR Gz.prog 127 #[bi #[U O W,U O H,Y (an ⟨g,0,ns⟩) n c],U O x,U O y,bi (arr p),bi (arr r)] w λe w'=>e=dl (em #[])/\Own w' B (Y (an ⟨g,0,ns⟩) n c) n (iE W x y p r 16 xs)/\al [g] w w':=by
 have hg:=N.block;have NW:=ag λk t=>R9 (k:=k) hx hy hn t;have S:Q w (((w.alloc (ap #[U O W,U O H,Y (an ⟨g,0,ns⟩) n c] 28)).alloc (ap (arr p) 97)).alloc (ap (arr r) 97)):=aU;have V:=((ak.new w 28 #[U O W,U O H,Y (an ⟨g,0,ns⟩) n c]).alloc (ap (arr p) 97)).alloc (ap (arr r) 97);have J:=(Bl.new (w.alloc (ap #[U O W,U O H,Y (an ⟨g,0,ns⟩) n c] 28)) p lp).alloc (ap (arr r) 97);have X:=Bl.new ((w.alloc (ap #[U O W,U O H,Y (an ⟨g,0,ns⟩) n c] 28)).alloc (ap (arr p) 97)) r R;simp only[NO] at J X;have l:=N.q S;have Z:=al.dp [g] S;have s1:=bP r;rw[R] at s1;have HP:=ag λk t=>nz bp k t;have HR:=ag λk t=>nz br k t;have Jf:(W:Int)<=32:=aa;have Vq:(y:Int)<=32:=aa;have Vr:(x:Int)<=32:=aa;clear S bp br hn hx hy hW hH N;go_enter Gz.gf func127,ntmps127;go_wp2_with(first|(first|refine eY rfl rfl rfl aE ?_|refine eU aC rfl rfl aE ?_));generalize((w.alloc (ap #[U O W,U O H,Y (an ⟨g,0,ns⟩) n c] 28)).alloc (ap (arr p) 97)).alloc (ap (arr r) 97)=w0 at V J X l Z⊢;go_loopw[13] (λi wr=>∃k:Nat,k<=16/\i=U O k/\Hid (Own wr B (Y (an ⟨g,0,ns⟩) n c) n (iE W x y p r k xs)/\al [g] w wr/\ak wr w.heap.size 28 #[U O W,U O H,Y (an ⟨g,0,ns⟩) n c]/\Bl wr (w.heap.size+1) p)) (λi _=>16-(ajZ i).toNat)
 case atStart=>exact⟨0,aa,rfl,l,Z,V,J⟩
 case round=>
  obtain⟨k,t,rfl,hK⟩:=hrel;obtain⟨C,k2,K,k4⟩:=hK.out;clear hK V J X l Z;by_cases o:k<16
  ·have d:(k:Int)<16:=by omega
   have L:=NW.out k o;have he:=λw=>rX r R o w;obtain⟨p1,p2⟩:=HP.out k aa;obtain⟨r1,r2⟩:=HR.out k aa;have c1:=K.cell 2;have c2:=K.cell 0;have c3:=k4.at k o;have s:Hid (iE W x y p r (k+1) xs=(iE W x y p r k xs).set ((y+k/4)*W+x+k%4) (dG (p[k]?.getD 0+r[k]?.getD 0) 0 255)):=rfl;generalize p[k]?.getD 0=D at c3 p1 p2 s;generalize r[k]?.getD 0=M at he r1 r2 s;obtain⟨b,E⟩:∃b,k/4=b:=⟨_,rfl⟩;obtain⟨a,F⟩:∃a,k%4=a:=⟨_,rfl⟩;have dq:(k:Int)/4=(b:Int):=aa;have dr:(k:Int)%4=(a:Int):=aa;have q4l:b<4:=aa;have r4l:a<4:=aa;rw[E,F] at s L;obtain⟨m,hm⟩:∃m,(y+b)*W=m:=⟨_,rfl⟩;rw[hm] at s L;have G:((y:Int)+(b:Int))*(W:Int)=(m:Int):=by rw[<-hm,akE,Int.natCast_add]
   have c4:=C.at (m+x+a) L;have f4:=C.free (m+x+a);generalize(iE W x y p r k xs)[m+x+a]?.getD 0=old at c4;have T:=ag λz=>vY (D+M) 0 255 z;obtain⟨v,hv⟩:∃v,dG (D+M) 0 255=v:=⟨_,rfl⟩;rw[hv] at T s;have P:=ag (C.set (m+x+a) v);rw[<-s.out] at P;have n2:=ag (k2.set (p:=⟨g,m+x+a,ns⟩) (.inl au) (U O v));have n3:=ag (K.aL (p:=⟨g,m+x+a,ns⟩) m9 (U O v));have n4:=ag (k4.aL (p:=⟨g,m+x+a,ns⟩) rO (U O v));have wq:EV.wrap (b:Int)=(b:Int):=aD _ ⟨aa,aa⟩;have xP:(k:Int).tmod 4=(a:Int):=CX;have t0:EV.wrap ((y:Int)+(b:Int))=(y:Int)+(b:Int):=aD _ ⟨aa,aa⟩;have t2:EV.wrap ((m:Int)+(x:Int))=(m:Int)+(x:Int):=aD _ ⟨aa,aa⟩;have t3:EV.wrap ((m:Int)+(x:Int)+(a:Int))=(m:Int)+(x:Int)+(a:Int):=aD _ ⟨aa,aa⟩;have t4:EV.wrap (D+M)=D+M:=aD _ ⟨aa,aa⟩;have i1:((m:Int)+(x:Int)+(a:Int)).toNat=m+x+a:=aa;have i2:(0:Int)<=(m:Int)+(x:Int)+(a:Int):=aa;have i3:(m:Int)+(x:Int)+(a:Int)<(n:Int):=aa;have t1:EV.wrap (((y:Int)+(b:Int))*(W:Int))=(m:Int):=by rw[G];exact aD _ ⟨by omega,by omega⟩
   clear C k2 K k4 hv G hm L E F s HP HR NW;go_wp2;refine eo (λww=>ww.cell? ⟨w.heap.size,2,ns⟩=an (Y (an ⟨g,0,ns⟩) n c)/\ww.cell? ⟨w.heap.size,0,ns⟩=an (U O W)/\ww.cell? ⟨w.heap.size+1,k,ns⟩=an (U O D)) (λj=>decide (20<=j)) aj ⟨c1,c2,c3⟩ λhS=>?_;refine ai 0 (h:=ai 1 (h:=ai 2 (h:=ai 3 (h:=ai 4 (h:=ai 5 (h:=ai 6 (h:=ai 7 (h:=ai 8 (h:=ai 9 (h:=ai 10 (h:=ai 11 (h:=ai 12 (h:=ai 13 (h:=ai 14 (h:=ai 15 (h:=ai 16 (h:=ai 17 (h:=ai 18 (h:=?_)))))))))))))))))));refine bw (k:=19) aj rfl rfl λK2 I=>?_;go_simp;refine(T.out _).mono ?_;rintro e wa⟨rfl,rfl⟩;refine I.out _ _ hS λhS=>?_;clear I K2;refine bh ?_;refine gi [20,21] 20 aj aw rfl ?_;clear c1 c2 c3 hS;clear wq xP t0 t1 t2 t3 dq dr;go_wp2;go_roundw;case rel=>exact⟨k+1,aa,aJ,P.out.drew,n2.out.drew,n3.out,n4.out.q ((Q.refl _).drew)⟩
   case measure=>exact bj
  ·have d:k=16:=by omega
   subst d;go_wp2;exact ajY (v:=em #[]) (by simp[results,results127,go_sem]) rfl ⟨rfl,C,k2⟩
def abR{W H g c:Nat}{p:List Int}(r:List Int)(R:Own w B (Y (an ⟨g,0,ns⟩) n c) n xs)(hn:n=H*W)(S:n<=1024)(hW:W<=32)(hH:H<=32)(hx:x+4<=W)(hy:y+4<=H)
  (lp:p.length=16)(lr:r.length=16)(bp:aW p 100000=AT)(br:aW r 100000=AT):
  ahR Gz.prog 107 #[bi #[U O W,U O H,Y (an ⟨g,0,ns⟩) n c],U O x,U O y,bi (arr p),bi (arr r)] w λe w'=>e=dl (em #[])/\Own w' B (Y (an ⟨g,0,ns⟩) n c) n (iE W x y p r 16 xs)/\al [g] w w':=by
 have hg:=R.block;have NW:=ag λk t=>R9 (k:=k) hx hy hn t;have V:Q w (((w.alloc (ap #[U O W,U O H,Y (an ⟨g,0,ns⟩) n c] 28)).alloc (ap (arr p) 97)).alloc (ap (arr r) 97)):=aU;have X:=((ak.new w 28 #[U O W,U O H,Y (an ⟨g,0,ns⟩) n c]).alloc (ap (arr p) 97)).alloc (ap (arr r) 97);have K:=(Bl.new (w.alloc (ap #[U O W,U O H,Y (an ⟨g,0,ns⟩) n c] 28)) p lp).alloc (ap (arr r) 97);have L:=Bl.new ((w.alloc (ap #[U O W,U O H,Y (an ⟨g,0,ns⟩) n c] 28)).alloc (ap (arr p) 97)) r lr;simp only[NO] at K L;have l:=R.q V;have Z:=al.dp [g] V;have s1:=bP r;rw[lr] at s1;have HP:=ag λk t=>nz bp k t;have HR:=ag λk t=>nz br k t;have Jf:(W:Int)<=32:=aa;have Vq:(y:Int)<=32:=aa;have Vr:(x:Int)<=32:=aa;clear V bp br hn hx hy hW hH R;go_enter Gz.gf func107,ntmps107;go_wp2_with(first|(first|refine eY rfl rfl rfl aE ?_|refine eU aC rfl rfl aE ?_));generalize((w.alloc (ap #[U O W,U O H,Y (an ⟨g,0,ns⟩) n c] 28)).alloc (ap (arr p) 97)).alloc (ap (arr r) 97)=w0 at X K L l Z⊢;go_loopw[10] (λi wr=>∃k:Nat,k<=16/\i=U O k/\Hid (Own wr B (Y (an ⟨g,0,ns⟩) n c) n (iE W x y p r k xs)/\al [g] w wr/\ak wr w.heap.size 28 #[U O W,U O H,Y (an ⟨g,0,ns⟩) n c]/\Bl wr (w.heap.size+1) p/\Bl wr (w.heap.size+1+1) r)) (λi _=>16-(ajZ i).toNat)
 case atStart=>exact⟨0,aa,rfl,l,Z,X,K,L⟩
 case round=>
  obtain⟨k,t,rfl,hK⟩:=hrel;obtain⟨C,k2,M,k4,k5⟩:=hK.out;clear hK X K L l Z;by_cases o:k<16
  ·have d:(k:Int)<16:=by omega
   have N:=NW.out k o;obtain⟨p1,p2⟩:=HP.out k aa;obtain⟨r1,r2⟩:=HR.out k aa;have c1:=M.cell 2;have c2:=M.cell 0;have c3:=k4.at k o;have c5:=k5.at k o;have s:Hid (iE W x y p r (k+1) xs=(iE W x y p r k xs).set ((y+k/4)*W+x+k%4) (dG (p[k]?.getD 0+r[k]?.getD 0) 0 255)):=rfl;generalize p[k]?.getD 0=D at c3 p1 p2 s;generalize r[k]?.getD 0=E at c5 r1 r2 s;obtain⟨b,F⟩:∃b,k/4=b:=⟨_,rfl⟩;obtain⟨a,G⟩:∃a,k%4=a:=⟨_,rfl⟩;have dq:(k:Int)/4=(b:Int):=aa;have dr:(k:Int)%4=(a:Int):=aa;have q4l:b<4:=aa;have r4l:a<4:=aa;rw[F,G] at s N;obtain⟨m,hm⟩:∃m,(y+b)*W=m:=⟨_,rfl⟩;rw[hm] at s N;have I:((y:Int)+(b:Int))*(W:Int)=(m:Int):=by rw[<-hm,akE,Int.natCast_add]
   have c4:=C.at (m+x+a) N;have f4:=C.free (m+x+a);generalize(iE W x y p r k xs)[m+x+a]?.getD 0=old at c4;have T:=ag λz=>wD (D+E) 0 255 z aw;obtain⟨v,hv⟩:∃v,dG (D+E) 0 255=v:=⟨_,rfl⟩;rw[hv] at T s;have S:=ag (C.set (m+x+a) v);rw[<-s.out] at S;have n2:=ag (k2.set (p:=⟨g,m+x+a,ns⟩) (.inl au) (U O v));have n3:=ag (M.aL (p:=⟨g,m+x+a,ns⟩) m9 (U O v));have n5:=ag (k5.aL (p:=⟨g,m+x+a,ns⟩) (by show w.heap.size+1+1≠g;omega) (U O v));have n4:=ag (k4.aL (p:=⟨g,m+x+a,ns⟩) rO (U O v));have wq:EV.wrap (b:Int)=(b:Int):=aD _ ⟨aa,aa⟩;have xP:(k:Int).tmod 4=(a:Int):=CX;have t0:EV.wrap ((y:Int)+(b:Int))=(y:Int)+(b:Int):=aD _ ⟨aa,aa⟩;have t2:EV.wrap ((m:Int)+(x:Int))=(m:Int)+(x:Int):=aD _ ⟨aa,aa⟩;have t3:EV.wrap ((m:Int)+(x:Int)+(a:Int))=(m:Int)+(x:Int)+(a:Int):=aD _ ⟨aa,aa⟩;have t4:EV.wrap (D+E)=D+E:=aD _ ⟨aa,aa⟩;have i1:((m:Int)+(x:Int)+(a:Int)).toNat=m+x+a:=aa;have i2:(0:Int)<=(m:Int)+(x:Int)+(a:Int):=aa;have i3:(m:Int)+(x:Int)+(a:Int)<(n:Int):=aa;have t1:EV.wrap (((y:Int)+(b:Int))*(W:Int))=(m:Int):=by rw[I];exact aD _ ⟨by omega,by omega⟩
   clear C k2 M k4 k5 hv I hm N F G s HP HR NW;go_wp2;refine eo (λP=>P.cell? ⟨w.heap.size,2,ns⟩=an (Y (an ⟨g,0,ns⟩) n c)/\P.cell? ⟨w.heap.size,0,ns⟩=an (U O W)/\P.cell? ⟨w.heap.size+1,k,ns⟩=an (U O D)/\P.cell? ⟨w.heap.size+1+1,k,ns⟩=an (U O E)) (λj=>decide (22<=j)) aj ⟨c1,c2,c3,c5⟩ λhS=>?_;refine ai 0 (h:=ai 1 (h:=ai 2 (h:=ai 3 (h:=ai 4 (h:=ai 5 (h:=ai 6 (h:=ai 7 (h:=ai 8 (h:=ai 9 (h:=ai 10 (h:=ai 11 (h:=ai 12 (h:=ai 13 (h:=ai 14 (h:=ai 15 (h:=ai 16 (h:=ai 17 (h:=ai 18 (h:=ai 19 (h:=ai 20 (h:=?_)))))))))))))))))))));refine bw (k:=21) aj rfl rfl λK2 J=>?_;go_simp;refine(T.out _).mono ?_;rintro e wa⟨rfl,rfl⟩;refine J.out _ _ hS λhS=>?_;clear J K2;refine bh ?_;refine gi [22,23] 22 aj aw rfl ?_;clear c1 c2 c3 c5 hS;clear wq xP t0 t1 t2 t3 dq dr;go_wp2;go_roundw;case rel=>exact⟨k+1,aa,aJ,S.out.drew,n2.out.drew,n3.out,n4.out.q ((Q.refl _).drew),n5.out.q ((Q.refl _).drew)⟩
   case measure=>exact bj
  ·have d:k=16:=by omega
   subst d;go_wp2;exact ajY (v:=em #[]) (by simp[results,results107,go_sem]) rfl ⟨rfl,C,k2⟩
end
section
open Go.RowKit
def mI(a:List Int)(i j k:Nat):Int:=a[(j+k/4)*8+i+k%4]?.getD 0
def lW(a:List Int)(i j:Nat):List Int:=bk (mI a i j) 16
def OP(a:List Int)(i j:Nat):(lW a i j).length=16:=aC
def partAt(k:Nat)(w:rl)(a:k<4):ahR Gz.prog 123 #[U O k] w λe w'=>e=dl (em #[U O ((k%2*4:Nat):Int),U O ((k/2*4:Nat):Int)])/\w=w':=by
 all_goals
  go_enter Gz.gf func123,ntmps123;go_wp2;refine bodyPost_ret (v:=em #[U O _,U O _]) (by simp[results,results123,go_sem]) rfl ⟨rfl,rfl⟩
def partOf(i j:Nat)(A:Option Addr)(c B:Nat)(a:List Int)(w:rl)(F:Rd w B A a)(R:B<=w.heap.size)(S:a.length=64)(hi:i<=4)(T:j<=4):
  ahR Gz.prog 126 #[Y A 64 c,U O i,U O j] w λe w'=>e=dl (bi (arr (lW a i j)))/\Q w w':=by
 obtain⟨b,o,rfl,V,hc⟩:=F aa;have G:Q w ((w.alloc (ap (arr (so 16 0)) 97)).alloc (ap (arr (so 16 0)) 97)):=aU;have I:=(Bl.zero w).alloc (ap (arr (so 16 0)) 97);have t:=Bl.zero (w.alloc (ap (arr (so 16 0)) 97));simp only[NO] at t;have J:Hid (∀k,k<64->w.cell? ⟨b,o+k,ns⟩=an (U O (a[k]?.getD 0))):=λk K=>hc k aa;clear hc F;go_enter Gz.gf func126,ntmps126;go_wp2;go_loopw[9] (λz wr=>∃k:Nat,k<=16/\z=U O k/\Hid (Bl wr w.heap.size cJ/\Q w wr/\Bl wr (w.heap.size+1) (bk (λl=>if l<k then mI a i j l else 0) 16))) (λz _=>16-(ajZ z).toNat)
 case atStart=>exact⟨0,aa,rfl,I,G,by rw[sM];exact t⟩
 case round=>
  obtain⟨k,K,rfl,hK⟩:=hrel;obtain⟨L,C,r⟩:=hK.out;clear hK I t G;by_cases h:k<16
  ·have d:(k:Int)<16:=by omega
   have q:=sU (mI a i j) k h;obtain⟨p,M⟩:∃p,(j+k/4)*8+i+k%4=p:=⟨_,rfl⟩;have s:p<64:=aa;have hc:=(C.cell b (o+p) aa).trans (J.out p s);have D:mI a i j k=a[p]?.getD 0:=by unfold mI;rw[M]
   rw[D] at q;generalize a[p]?.getD 0=v at hc q;have N:((j:Int)+(k:Int)/4)*8+(i:Int)+(k:Int)%4=(p:Int):=aa;have P:=r.at k h;have f3:=r.free k;rw[te h (akf _)] at P;have n5:=ag (r.set k v);rw[q] at n5;have n1:=ag (L.aL (p:=⟨w.heap.size+1,k,ns⟩) yp (U O v));have n4:=ag (C.set (p:=⟨w.heap.size+1,k,ns⟩) yq (U O v));exact Ld
  ·have d:k=16:=by omega
   subst d;rw[sL] at r;have ul:=OP a i j;change Bl wr (w.heap.size+1) (lW a i j) at r;generalize E:lW a i j=X at r ul⊢;have JT:=ag E;have K4:=ag C;exact yQ
def aeq{q:Nat}(c:Nat){a:List Int}(G:Rd w B A a)(hB:B<=w.heap.size)(hl:a.length=64)(hq:q<4):
  ahR Gz.prog 106 #[Y A 64 c,U O q] w λe w'=>e=dl (bi (arr (lW a (q%2*4) (q/2*4))))/\Q w w':=by
 obtain⟨b,o,rfl,hb,hc⟩:=G aa;obtain⟨i,hi⟩:∃i,q%2*4=i:=⟨_,rfl⟩;obtain⟨j,M⟩:∃j,q/2*4=j:=⟨_,rfl⟩;have N:(q:Int)%2*4=(i:Int):=aa;have P:(q:Int)/2*4=(j:Int):=aa;have R:i<=4:=aa;have S:j<=4:=aa;rw[hi,M];have I:Q w ((w.alloc (ap (arr (so 16 0)) 97)).alloc (ap (arr (so 16 0)) 97)):=aU;have J:=(Bl.zero w).alloc (ap (arr (so 16 0)) 97);have E:=Bl.zero (w.alloc (ap (arr (so 16 0)) 97));simp only[NO] at E;have T:Hid (∀k,k<64->w.cell? ⟨b,o+k,ns⟩=an (U O (a[k]?.getD 0))):=λk V=>hc k aa;clear hc G;go_enter Gz.gf func106,ntmps106;go_wp2;go_loopw[6] (λF wr=>∃k:Nat,k<=16/\F=U O k/\Hid (Bl wr w.heap.size cJ/\Q w wr/\Bl wr (w.heap.size+1) (bk (λl=>if l<k then mI a i j l else 0) 16))) (λF _=>16-(ajZ F).toNat)
 case atStart=>exact⟨0,aa,rfl,J,I,by rw[sM];exact E⟩
 case round=>
  obtain⟨k,V,rfl,hK⟩:=hrel;obtain⟨K,t,r⟩:=hK.out;clear hK J E I;by_cases s:k<16
  ·have h:(k:Int)<16:=by omega
   have d:=sU (mI a i j) k s;obtain⟨p,L⟩:∃p,(j+k/4)*8+i+k%4=p:=⟨_,rfl⟩;have z:p<64:=aa;have hc:=(t.cell b (o+p) aa).trans (T.out p z);have C:mI a i j k=a[p]?.getD 0:=by unfold mI;rw[L]
   rw[C] at d;generalize a[p]?.getD 0=v at hc d;have X:((j:Int)+(k:Int)/4)*8+(i:Int)+(k:Int)%4=(p:Int):=aa;have Z:=r.at k s;have f3:=r.free k;rw[te s (akf _)] at Z;have n5:=ag (r.set k v);rw[d] at n5;have n1:=ag (K.aL (p:=⟨w.heap.size+1,k,ns⟩) yp (U O v));have n4:=ag (t.set (p:=⟨w.heap.size+1,k,ns⟩) yq (U O v));clear K t r d C L;exact Ld
  ·have h:k=16:=by omega
   subst h;rw[sL] at r;have ul:=OP a i j;change Bl wr (w.heap.size+1) (lW a i j) at r;generalize D:lW a i j=vs at r ul⊢;have JT:=ag D;clear D;have K4:=ag t;clear t;exact yQ
end
section
open Go.RowKit
def nJ(W H:Int)(xs:List Int)(x y:Int):Int:=
 if x%2=0 then(if y%2=0 then bJ W H xs (x/2) (y/2) else(bJ W H xs (x/2) (y/2)+bJ W H xs (x/2) (y/2+1)+1)/2)
 else(if y%2=0 then(bJ W H xs (x/2) (y/2)+bJ W H xs (x/2+1) (y/2)+1)/2
  else(bJ W H xs (x/2) (y/2)+bJ W H xs (x/2+1) (y/2)+bJ W H xs (x/2) (y/2+1)+bJ W H xs (x/2+1) (y/2+1)+2)/4)
def aak{x y:Int}(c:Nat)(p:Rd w B A xs)(r:B<=w.heap.size)(s:Hid (xs.length=n))(j:Hid (bV W H xs=AT))(M: -1000000<=x)(N:x<=1000000)(P: -1000000<=y)(R:y<=1000000):
  ahR Gz.prog 160 #[bi #[U O W,U O H,Y A n c],U O x,U O y] w λe w'=>e=dl (U O (nJ W H xs x y))/\Q w w':=by
 have q0:Q w (w.alloc (ap #[U O W,U O H,Y A n c] 28)):=aU;have k:=(ak.new w 28 #[U O W,U O H,Y A n c]);have T:Hid (∀(z:iW (w.alloc (ap #[U O W,U O H,Y A n c] 28)))(u v:Int),ahR Gz.prog 161 #[bi #[U O W,U O H,Y A n c],U O u,U O v] z.at_ λe w'=>e=dl (U O (bJ W H xs u v))/\Q z.at_ w'):=λz u v=>QX u v c (p.q (q0.trans z.q) r) (aQ r (q0.trans z.q).size) s j;have S:Hid (∀u v,0<=bJ W H xs u v/\bJ W H xs u v<=255):=λu v=>nH j.out u v;have V:=k.fZ;have X:=k.cell;clear p k j;obtain⟨a,t⟩:∃a,x/2=a:=⟨_,rfl⟩;obtain⟨b,C⟩:∃b,y/2=b:=⟨_,rfl⟩;have D:0<=bJ W H xs a b/\bJ W H xs a b<=255:=S.out a b;have E:=S.out (a+1) b;have F:=S.out a (b+1);have G:=S.out (a+1) (b+1);unfold nJ;rw[t,C];have T0:=ag λz=>T.out z a b;have T1:=ag λz=>T.out z (a+1) b;have T2:=ag λz=>T.out z a (b+1);have T3:=ag λz=>T.out z (a+1) (b+1);generalize bJ W H xs a b=d at D T0⊢;generalize bJ W H xs (a+1) b=s1 at E T1⊢;generalize bJ W H xs a (b+1)=s2 at F T2⊢;generalize bJ W H xs (a+1) (b+1)=h at G T3⊢;obtain⟨a1,DP⟩:∃a1,a+1=a1:=⟨_,rfl⟩;obtain⟨b1,nl⟩:∃b1,b+1=b1:=⟨_,rfl⟩;rw[DP] at T1 T3;rw[nl] at T2 T3;clear T S;have Z:EV.wrap (d+s1)=d+s1:=aD _ ⟨aa,aa⟩;have w2:EV.wrap (d+s2)=d+s2:=aD _ ⟨aa,aa⟩;have w3:EV.wrap (d+s1+1)=d+s1+1:=aD _ ⟨aa,aa⟩;have w4:EV.wrap (d+s2+1)=d+s2+1:=aD _ ⟨aa,aa⟩;have w5:EV.wrap (d+s1+s2)=d+s1+s2:=aD _ ⟨aa,aa⟩;have w6:EV.wrap (d+s1+s2+h)=d+s1+s2+h:=aD _ ⟨aa,aa⟩;have I:EV.wrap (d+s1+s2+h+2)=d+s1+s2+h+2:=aD _ ⟨aa,aa⟩;have d1:(d+s1+1).tdiv 2=(d+s1+1)/2:=jS aa;have d2:(d+s2+1).tdiv 2=(d+s2+1)/2:=jS aa;have d3:(d+s1+s2+h+2).tdiv 4=(d+s1+s2+h+2)/4:=jS aa;have g1:EV.wrap ((d+s1+1)/2)=(d+s1+1)/2:=aD _ ⟨aa,aa⟩;have g2:EV.wrap ((d+s2+1)/2)=(d+s2+1)/2:=aD _ ⟨aa,aa⟩;have g3:EV.wrap ((d+s1+s2+h+2)/4)=(d+s1+s2+h+2)/4:=aD _ ⟨aa,aa⟩;by_cases uw:x%2=0;all_goals by_cases ux:y%2=0
 ·rw[if_pos uw,if_pos ux];have l:(x+1)/2=a:=aa;have o:(y+1)/2=b:=aa;clear uw ux DP nl;go_enter Gz.gf func160,ntmps160;go_wp2;refine(T0.out ⟨_,Q.refl _⟩).mono ?_;rintro e I⟨rfl,J⟩;go_wp2;go_ret;exact⟨rfl,q0.trans J⟩
 ·rw[if_pos uw,if_neg ux];have l:(x+1)/2=a:=aa;have o:(y+1)/2=b1:=aa;have K:(b==b1)=Ba:=uN;exact Ds
 ·rw[if_neg uw,if_pos ux];have l:(x+1)/2=a1:=aa;have o:(y+1)/2=b:=aa;have L:(a==a1)=Ba:=uN;exact Ds
 ·rw[if_neg uw,if_neg ux];have l:(x+1)/2=a1:=aa;have o:(y+1)/2=b1:=aa;have L:(a==a1)=Ba:=uN;have K:(b==b1)=Ba:=uN;exact Ds
theorem S5(x:Int):x.tmod 2=0<->x%2=0:=by grind
def aal{x y:Int}(c:Nat)(hx:Rd w B A xs)(hB:B<=w.heap.size)(hn:Hid (xs.length=n))(V:Hid (bV W H xs=AT))(x1: -1000000<=x)(x2:x<=1000000)(y1: -1000000<=y)(y2:y<=1000000):
  ahR Gz.prog 141 #[bi #[U O W,U O H,Y A n c],U O x,U O y] w λe w'=>e=dl (U O (nJ W H xs x y))/\Q w w':=by
 have E:Q w (w.alloc (ap #[U O W,U O H,Y A n c] 28)):=aU;have F:=(ak.new w 28 #[U O W,U O H,Y A n c]);have T:Hid (∀(z:iW (w.alloc (ap #[U O W,U O H,Y A n c] 28)))(u v:Int),ahR Gz.prog 170 #[bi #[U O W,U O H,Y A n c],U O u,U O v] z.at_ λe w'=>e=dl (U O (bJ W H xs u v))/\Q z.at_ w'):=λz u v=>adx u v c (hx.q (E.trans z.q) hB) (aQ hB (E.trans z.q).size) hn V;have S:Hid (∀u v,0<=bJ W H xs u v/\bJ W H xs u v<=255):=λu v=>nH V.out u v;have ba:=F.fZ;have bc:=F.cell;clear hx V;obtain⟨a,G⟩:∃a,x/2=a:=⟨_,rfl⟩;obtain⟨b,I⟩:∃b,y/2=b:=⟨_,rfl⟩;have m0:0<=bJ W H xs a b/\bJ W H xs a b<=255:=S.out a b;have m1:=S.out (a+1) b;have m2:=S.out a (b+1);have m3:=S.out (a+1) (b+1);unfold nJ;rw[G,I];have J:=ag λz=>T.out z a b;have K:=ag λz=>T.out z (a+1) b;have L:=ag λz=>T.out z a (b+1);have M:=ag λz=>T.out z (a+1) (b+1);generalize bJ W H xs a b=d at m0 J⊢;generalize bJ W H xs (a+1) b=s1 at m1 K⊢;generalize bJ W H xs a (b+1)=s2 at m2 L⊢;generalize bJ W H xs (a+1) (b+1)=r at m3 M⊢;obtain⟨s,DP⟩:∃s,a+1=s:=⟨_,rfl⟩;obtain⟨t,nl⟩:∃t,b+1=t:=⟨_,rfl⟩;rw[DP] at K M;rw[nl] at L M;clear T S;have w1:EV.wrap (d+s1)=d+s1:=aD _ ⟨aa,aa⟩;have w2:EV.wrap (d+s2)=d+s2:=aD _ ⟨aa,aa⟩;have w3:EV.wrap (d+s1+1)=d+s1+1:=aD _ ⟨aa,aa⟩;have w4:EV.wrap (d+s2+1)=d+s2+1:=aD _ ⟨aa,aa⟩;have w5:EV.wrap (d+s1+s2)=d+s1+s2:=aD _ ⟨aa,aa⟩;have w6:EV.wrap (d+s1+s2+r)=d+s1+s2+r:=aD _ ⟨aa,aa⟩;have C:EV.wrap (d+s1+s2+r+2)=d+s1+s2+r+2:=aD _ ⟨aa,aa⟩;have d1:(d+s1+1).tdiv 2=(d+s1+1)/2:=jS aa;have d2:(d+s2+1).tdiv 2=(d+s2+1)/2:=jS aa;have d3:(d+s1+s2+r+2).tdiv 4=(d+s1+s2+r+2)/4:=jS aa;have g1:EV.wrap ((d+s1+1)/2)=(d+s1+1)/2:=aD _ ⟨aa,aa⟩;have g2:EV.wrap ((d+s2+1)/2)=(d+s2+1)/2:=aD _ ⟨aa,aa⟩;have g3:EV.wrap ((d+s1+s2+r+2)/4)=(d+s1+s2+r+2)/4:=aD _ ⟨aa,aa⟩;have l:=S5 x;have o:=S5 y;have N:=ag λw=>Fq x 2 w aa aa aa aa;have P:=ag λw=>Fq y 2 w aa aa aa aa;rw[G] at N;rw[I] at P;by_cases j:x%2=0;all_goals by_cases k:y%2=0
 ·rw[if_pos j,if_pos k];have ex:(x.tmod 2==0)=AT:=by rw[beq_iff_eq];exact l.2 j
  have X:(y.tmod 2==0)=AT:=by rw[beq_iff_eq];exact o.2 k
  have Z:EV.wrap (a+1)=s:=yr;have c2:EV.wrap (b+1)=t:=yJ;clear j k l o G I;have A1:=ag DP;have B1:=ag nl;clear DP nl;go_enter Gz.gf func141,ntmps141;go_wp2;refine(N.out _).mono ?_;rintro e w'⟨rfl,rfl⟩;go_wp2;refine(P.out _).mono ?_;rintro e w'⟨rfl,rfl⟩;go_wp2;refine(J.out ⟨_,Q.refl _⟩).mono ?_;rintro e C⟨rfl,p⟩;have D:=E.trans p;go_wp2;go_ret;exact⟨rfl,D⟩
 ·rw[if_pos j,if_neg k];have ex:(x.tmod 2==0)=AT:=by rw[beq_iff_eq];exact l.2 j
  have X:(y.tmod 2==0)=Ba:=by rw[beq_eq_false_iff_ne];exactλh=>k (o.1 h)
  have Z:EV.wrap (a+1)=s:=yr;have c2:EV.wrap (b+1)=t:=yJ;clear j k l o G I;have A1:=ag DP;have B1:=ag nl;clear DP nl;go_enter Gz.gf func141,ntmps141;go_wp2;refine(N.out _).mono ?_;rintro e w'⟨rfl,rfl⟩;go_wp2;refine(P.out _).mono ?_;rintro e w'⟨rfl,rfl⟩;go_wp2;refine(J.out ⟨_,Q.refl _⟩).mono ?_;rintro e C⟨rfl,p⟩;have D:=E.trans p;have bc:=F.oP p;go_wp2;refine(L.out ⟨_,p⟩).mono ?_;rintro e w8⟨rfl,R⟩;go_wp2;go_ret;exact⟨rfl,D.trans R⟩
 ·rw[if_neg j,if_pos k];have ex:(x.tmod 2==0)=Ba:=by rw[beq_eq_false_iff_ne];exactλh=>j (l.1 h)
  have X:(y.tmod 2==0)=AT:=by rw[beq_iff_eq];exact o.2 k
  have Z:EV.wrap (a+1)=s:=yr;have c2:EV.wrap (b+1)=t:=yJ;clear j k l o G I;have A1:=ag DP;have B1:=ag nl;clear DP nl;go_enter Gz.gf func141,ntmps141;go_wp2;refine(N.out _).mono ?_;rintro e w'⟨rfl,rfl⟩;go_wp2;refine(P.out _).mono ?_;rintro e w'⟨rfl,rfl⟩;go_wp2;refine(J.out ⟨_,Q.refl _⟩).mono ?_;rintro e C⟨rfl,p⟩;have D:=E.trans p;have bc:=F.oP p;go_wp2;refine(K.out ⟨_,p⟩).mono ?_;rintro e w8⟨rfl,R⟩;go_wp2;go_ret;exact⟨rfl,D.trans R⟩
 ·rw[if_neg j,if_neg k];have ex:(x.tmod 2==0)=Ba:=by rw[beq_eq_false_iff_ne];exactλh=>j (l.1 h)
  have X:(y.tmod 2==0)=Ba:=by rw[beq_eq_false_iff_ne];exactλh=>k (o.1 h)
  have Z:EV.wrap (a+1)=s:=yr;have c2:EV.wrap (b+1)=t:=yJ;clear j k l o G I;have A1:=ag DP;have B1:=ag nl;clear DP nl;go_enter Gz.gf func141,ntmps141;go_wp2;refine(N.out _).mono ?_;rintro e w'⟨rfl,rfl⟩;go_wp2;refine(P.out _).mono ?_;rintro e w'⟨rfl,rfl⟩;go_wp2;refine(J.out ⟨_,Q.refl _⟩).mono ?_;rintro e C⟨rfl,p⟩;have D:=E.trans p;have ba:=λ(z:iW C)=>F.oP (p.trans z.q);have K:=ag λ(z:iW C)=>K.out ⟨z.at_,p.trans z.q⟩;have L:=ag λ(z:iW C)=>L.out ⟨z.at_,p.trans z.q⟩;have M:=ag λ(z:iW C)=>M.out ⟨z.at_,p.trans z.q⟩;clear F;go_wp2;refine uY aj aj ?_;repeat(go_big_quiet_step (first|(go_at_call_of 170 s;go_at_call_of 170 t;with_reducible exact Calls.fZ (M.out _))|(go_at_call_of 170 s;with_reducible exact Calls.fZ (K.out _))|(go_at_call_of 170 t;with_reducible exact Calls.fZ (L.out _))|(go_at_call_of 170 a;with_reducible exact Calls.fZ (J.out _))))
  refine wpQuiet_nil ?_;rintro _⟨⟨w8,R⟩,rfl⟩;go_wp2;go_ret;exact⟨rfl,D.trans R⟩
end
section
open Go.RowKit
def qV(W H:Int)(xs:List Int)(x y vx vy:Int)(k:Nat):Int:=nJ W H xs (2*(x+(k%8:Nat))+vx) (2*(y+(k/8:Nat))+vy)
def ld(W H:Int)(xs:List Int)(x y vx vy:Int):List Int:=bk (qV W H xs x y vx vy) 64
def adB(h:bV W H xs=AT){x y:Int}:0<=nJ W H xs x y/\nJ W H xs x y<=255:=by have a:=nH h (x/2) (y/2);have b:=nH h (x/2+1) (y/2);have c:=nH h (x/2) (y/2+1);have d:=nH h (x/2+1) (y/2+1);unfold nJ;split<;>split<;>omega
def Q3(W H:Int)(xs:List Int)(x y vx vy:Int)(j:Nat)(hi:i<8):qV W H xs x y vx vy (j*8+i)=nJ W H xs (2*(x+(i:Int))+vx) (2*(y+(j:Int))+vy):=by unfold qV;rw[show(j*8+i)%8=i by omega,show(j*8+i)/8=j by omega]
def vR{x y:Int}:(ld W H xs x y vx vy).length=64:=aC
def aer(h:bV W H xs=AT){x y:Int}(k:Nat):0<=(ld W H xs x y vx vy)[k]?.getD 0/\(ld W H xs x y vx vy)[k]?.getD 0<=255:=by
 by_cases a:k<64
 ·unfold ld;rw[oI a];exact adB h
 ·rw[List.getElem?_eq_none (by rw[vR];omega)];simp
def Zd (x y:Int) (c:Nat) (p : Rd w B A xs) (N : B ≤ w.heap.size) (P : Hid (xs.length = n)) (R : Hid (bV W H xs = AT))
    (x1 : 0 ≤ x) (x2 : x ≤ 32) (y1 : 0 ≤ y) (y2 : y ≤ 32) (S : -16 ≤ vx) (T : vx ≤ 16) (V : -16 ≤ vy) (X : vy ≤ 16) :
    ahR Gz.prog 122 #[bi #[U O W, U O H, Y A n c], U O x, U O y, bi #[U O vx, U O vy]] w fun e w' => ∃ v, e = dl v ∧ Own w' w.heap.size v 64 (ld W H xs x y vx vy) ∧ Q w w' := by
  have r : Q w ((w.alloc (ap #[U O W, U O H, Y A n c] 28)).alloc (ap #[U O vx, U O vy] 95)) := (by repeat (first | exact Q.refl _ | assumption | refine Q.drewN ?_ _ | refine Q.drew ?_ | refine Q.alloc ?_ _ | refine Q.trans ?_ (by assumption) | refine Q.set ?_ (by first | exact ay _ | omega | (simp; done) | (simp; omega)) _))
  have J := (ak.new w 28 #[U O W, U O H, Y A n c]).alloc (ap #[U O vx, U O vy] 95)
  have bv := ak.new (w.alloc (ap #[U O W, U O H, Y A n c] 28)) 95 #[U O vx, U O vy]
  rw [NO] at bv
  have s : w.heap.size + 2 ≤ ((w.alloc (ap #[U O W, U O H, Y A n c] 28)).alloc (ap #[U O vx, U O vy] 95)).heap.size := by simp
  replace p := p.q r N
  go_enter Gz.gf func122, ntmps122
  go_wp2_with (at_make; generalize (w.alloc (ap #[U O W, U O H, Y A n c] 28)).alloc (ap #[U O vx, U O vy] 95) = d at r J bv p s ⊢; refine V5 rfl rfl 64 rfl rfl aa aa (Q.refl d) ?_; intro w1 K hq Z)
  have t : B ≤ d.heap.size := by omega
  go_loopw [9, 13] (fun v i wr => ∃ j : Nat, j ≤ 8 ∧ i = U O j ∧ Own wr d.heap.size v (j * 8) (bk (qV W H xs x y vx vy) (j * 8)) ∧ Q d wr) (fun _ i _ => 8 - (ajZ i).toNat)
  case atStart => exact ⟨0, ez _, rfl, by rw [Nat.zero_mul]; exact K, hq⟩
  case round =>
    obtain ⟨j, hj, rfl, l, o⟩ := hrel
    clear K hq Z
    by_cases aV : j < 8
    · obtain ⟨L, rfl⟩ : ∃ L : rl, L = wr := ⟨_, rfl⟩
      have M : decide ((j : Int) < 8) = AT := by simp; omega
      go_wp2
      go_loopw [9, 16] (fun v i wr => ∃ k : Nat, k ≤ 8 ∧ i = U O k ∧ Own wr d.heap.size v (j * 8 + k) (bk (qV W H xs x y vx vy) (j * 8 + k)) ∧ Q d wr) (fun _ i _ => 8 - (ajZ i).toNat)
      case atStart => exact ⟨0, ez _, rfl, l, o⟩
      case round =>
        obtain ⟨k, Do, rfl, b, a⟩ := hrel
        clear l o
        by_cases z : k < 8
        · have C := J.oP a
          have D := bv.oP a
          have E := a.size
          go_wp2
          refine (aak c (p.q a t) aa P R aa aa aa aa).mono ?_; rintro e w7 ⟨rfl, F⟩
          replace b := b.q F
          replace a := a.trans F
          replace E := a.size
          clear C D F
          go_wp2_with ((at_builtin; refine uD rfl rfl d d.heap.size rfl (b.alloc _) ⟨_, 0, ns⟩ rfl rP rP rP (a.alloc _) (rY _ _ _ _) ?_; intro v' w' G I qZ _; skip))
          go_roundw
          case rel => exact ⟨k + 1, by omega, by go_num, by have h := G; rw [← Q3 W H xs x y vx vy j z, ← O5] at h; exact h, I⟩
          case measure => simp [ajZ]; omega
        · go_wp2
          go_roundw
          case rel => exact ⟨j + 1, by omega, by go_num, by have e : k = 8 := by omega
                                                            subst e; rw [Nat.succ_mul]; exact b, a⟩
          case measure => simp [ajZ]; omega
    · go_wp2
      go_ret
      have e : j = 8 := by omega
      subst e
      exact ⟨_, rfl, l.mono aa, r.trans o⟩
def Ze (x y:Int) (c:Nat) (p : Rd w B A xs) (P : B ≤ w.heap.size) (R : Hid (xs.length = n)) (S : Hid (bV W H xs = AT))
    (x1 : 0 ≤ x) (x2 : x ≤ 32) (y1 : 0 ≤ y) (y2 : y ≤ 32) (T : -16 ≤ vx) (V : vx ≤ 16) (X : -16 ≤ vy) (Z : vy ≤ 16) :
    ahR Gz.prog 103 #[bi #[U O W, U O H, Y A n c], U O x, U O y, bi #[U O vx, U O vy]] w fun e w' => ∃ v, e = dl v ∧ Own w' w.heap.size v 64 (ld W H xs x y vx vy) ∧ Q w w' := by
  have r : Q w ((w.alloc (ap #[U O W, U O H, Y A n c] 28)).alloc (ap #[U O vx, U O vy] 95)) := (by repeat (first | exact Q.refl _ | assumption | refine Q.drewN ?_ _ | refine Q.drew ?_ | refine Q.alloc ?_ _ | refine Q.trans ?_ (by assumption) | refine Q.set ?_ (by first | exact ay _ | omega | (simp; done) | (simp; omega)) _))
  have K := (ak.new w 28 #[U O W, U O H, Y A n c]).alloc (ap #[U O vx, U O vy] 95)
  have bv := ak.new (w.alloc (ap #[U O W, U O H, Y A n c] 28)) 95 #[U O vx, U O vy]
  rw [NO] at bv
  have s : w.heap.size + 2 ≤ ((w.alloc (ap #[U O W, U O H, Y A n c] 28)).alloc (ap #[U O vx, U O vy] 95)).heap.size := by simp
  have L : Hid (((w.alloc (ap #[U O W, U O H, Y A n c] 28)).alloc (ap #[U O vx, U O vy] 95)).heap.size = w.heap.size + 1 + 1) := by unfold Hid; simp
  replace p := p.q r P
  go_enter Gz.gf func103, ntmps103
  have t := Own.jb ((w.alloc (ap #[U O W, U O H, Y A n c] 28)).alloc (ap #[U O vx, U O vy] 95)) ((w.alloc (ap #[U O W, U O H, Y A n c] 28)).alloc (ap #[U O vx, U O vy] 95)).heap.size (ay _)
  have hq := (Q.refl ((w.alloc (ap #[U O W, U O H, Y A n c] 28)).alloc (ap #[U O vx, U O vy] 95))).alloc (ap #[] 3)
  go_wp2
  generalize (w.alloc (ap #[U O W, U O H, Y A n c] 28)).alloc (ap #[U O vx, U O vy] 95) = d at r K bv p s t hq L ⊢
  have z : B ≤ d.heap.size := by omega
  go_loopw [9, 10] (fun v i wr => ∃ j : Nat, j ≤ 8 ∧ i = U O j ∧ Own wr d.heap.size v (j * 8) (bk (qV W H xs x y vx vy) (j * 8)) ∧ Q d wr) (fun _ i _ => 8 - (ajZ i).toNat)
  case atStart => exact ⟨0, ez _, rfl, by rw [Nat.zero_mul]; have h := t; rw [L.out] at h ⊢; exact h, hq⟩
  case round =>
    obtain ⟨j, hj, rfl, l, o⟩ := hrel
    clear t hq
    by_cases aV : j < 8
    · obtain ⟨M, rfl⟩ : ∃ M : rl, M = wr := ⟨_, rfl⟩
      have N : decide ((j : Int) < 8) = AT := by simp; omega
      go_wp2
      go_loopw [9, 11] (fun v i wr => ∃ k : Nat, k ≤ 8 ∧ i = U O k ∧ Own wr d.heap.size v (j * 8 + k) (bk (qV W H xs x y vx vy) (j * 8 + k)) ∧ Q d wr) (fun _ i _ => 8 - (ajZ i).toNat)
      case atStart => exact ⟨0, ez _, rfl, l, o⟩
      case round =>
        obtain ⟨k, Do, rfl, b, a⟩ := hrel
        clear l o
        by_cases C : k < 8
        · have D := K.oP a
          have E := bv.oP a
          have F := a.size
          go_wp2
          refine (aal c (p.q a z) aa R S aa aa aa aa).mono ?_; rintro e w7 ⟨rfl, G⟩
          replace b := b.q G
          replace a := a.trans G
          replace F := a.size
          clear D E G
          go_wp2_with ((at_builtin; refine uD rfl rfl d d.heap.size rfl (b.alloc _) ⟨_, 0, ns⟩ rfl rP rP rP (a.alloc _) (rY _ _ _ _) ?_; intro v' w' I J qZ _; skip))
          go_roundw
          case rel => exact ⟨k + 1, by omega, by go_num, by have h := I; rw [← Q3 W H xs x y vx vy j C, ← O5] at h; exact h, J⟩
          case measure => simp [ajZ]; omega
        · go_wp2
          go_roundw
          case rel => exact ⟨j + 1, by omega, by go_num, by have e : k = 8 := by omega
                                                            subst e; rw [Nat.succ_mul]; exact b, a⟩
          case measure => simp [ajZ]; omega
    · go_wp2
      go_ret
      have e : j = 8 := by omega
      subst e
      exact ⟨_, rfl, l.mono aa, r.trans o⟩
end
section
open Go.RowKit
def nth(m:List Int)(i:Nat):Int:=m[i]?.getD 0
def ko(W H:Nat)(ref xs:List Int)(x y a:Nat)(m:List Int)(k:Nat):List Int:=
 if nth m 0=2 then
  mi (nth m (3+k)).toNat (eA W H xs (x+k%2*4:Nat) (y+k/2*4:Nat) (decide (a<y+k/2*4))) (eL W H xs (x+k%2*4:Nat) (y+k/2*4:Nat) (decide (0<x+k%2*4)))
   (eC W H xs (x+k%2*4:Nat) (y+k/2*4:Nat) (decide (a<y+k/2*4)) (decide (0<x+k%2*4))) (decide (a<y+k/2*4)) (decide (0<x+k%2*4))
 else lW (ld W H ref x y (nth m 1) (nth m 2)) (k%2*4) (k/2*4)
def eg(W H:Nat)(ref:List Int)(x y a:Nat)(m:List Int)(q:Int):Nat->List Int->List Int
 |0,xs=>xs
 |k+1,xs=>iE W (x+k%2*4) (y+k/2*4) (ko W H ref (eg W H ref x y a m q k xs) x y a m k) (gU (sub m (7+16*k) 16) q) 16 (eg W H ref x y a m q k xs)
def ie(W H:Nat)(ref:List Int)(row:Nat)(L:List Int)(q:Int):Nat->List Int->List Int
 |0,xs=>xs
 |k+1,xs=>eg W H ref (k*8) (row*8) (row*8) (sub L (71*k) 71) q 4 (ie W H ref row L q k xs)
def iy(W H:Nat)(ref:List Int)(a:Nat->List Int)(q:Int):Nat->List Int->List Int
 |0,xs=>xs
 |k+1,xs=>ie W H ref k (a k) q (W/8) (iy W H ref a q k xs)
def Ab(W H:Nat)(ref:List Int)(x y a:Nat)(m:List Int)(q:Int)(xs:List Int):∀k,(eg W H ref x y a m q k xs).length=xs.length
 |0=>rfl
 |k+1=>by rw[eg,PX,Ab W H ref x y a m q xs k]
def Ac(W H:Nat)(ref:List Int)(x y a:Nat)(m:List Int)(q:Int){xs:List Int}(h:dk xs=AT):∀k,dk (eg W H ref x y a m q k xs)=AT
 |0=>h
 |k+1=>by rw[eg];exact PY _ _ _ _ _ (Ac W H ref x y a m q h k) _
def Ad(W H:Nat)(ref:List Int)(row:Nat)(L:List Int)(q:Int)(xs:List Int):∀k,(ie W H ref row L q k xs).length=xs.length
 |0=>rfl
 |k+1=>by rw[ie,Ab,Ad W H ref row L q xs k]
def Ae(W H:Nat)(ref:List Int)(row:Nat)(L:List Int)(q:Int){xs:List Int}(h:dk xs=AT):∀k,dk (ie W H ref row L q k xs)=AT
 |0=>h
 |k+1=>by rw[ie];exact Ac _ _ _ _ _ _ _ _ (Ae W H ref row L q h k) _
def zP(W H:Nat)(ref:List Int)(a:Nat->List Int)(q:Int)(xs:List Int):∀k,(iy W H ref a q k xs).length=xs.length
 |0=>rfl
 |k+1=>by rw[iy,Ad,zP W H ref a q xs k]
def zQ(W H:Nat)(ref:List Int)(a:Nat->List Int)(q:Int){xs:List Int}(h:dk xs=AT):∀k,dk (iy W H ref a q k xs)=AT
 |0=>h
 |k+1=>by rw[iy];exact Ae _ _ _ _ _ _ (zQ W H ref a q h k) _
def qm{W H:Nat}{a:List Int}(h:bV W H xs=AT)(b:a.length=xs.length)(d:dk a=AT):bV W H a=AT:=by obtain⟨h1,e,j,_⟩:=jU h;unfold bV dP;rw[b,decide_eq_true h1,decide_eq_true e,decide_eq_true j,d];rfl
def M7(h:∀k,k<xs.length->0<=xs[k]?.getD 0/\xs[k]?.getD 0<=255):aW xs 100000=AT:=by unfold aW;rw[aia];intro x b;obtain⟨k,a,rfl⟩:=List.mem_iff_getElem.1 b;have:=h k a;rw[ajR a] at this;exact decide_eq_true ⟨by have:=this.1;simp at this;omega,by have:=this.2;simp at this;omega⟩
def aes{M:Int}(h:∀k,k<xs.length-> -M<=xs[k]?.getD 0/\xs[k]?.getD 0<=M):aW xs M=AT:=by unfold aW;rw[aia];intro x b;obtain⟨k,a,rfl⟩:=List.mem_iff_getElem.1 b;have:=h k a;rw[ajR a] at this;exact decide_eq_true this
def Q6{q:Int}:aW (gU xs q) 100000=AT:=by
 unfold gU;split
 ·refine aes λk b=>?_;have a:k<16:=aE
  have hc:de (bk (gT xs (step q.toNat)) 16) 4080:=λi=>by
   by_cases hi:i<16
   ·rw[oI hi];exact Gh aa
   ·rw[List.getElem?_eq_none (by rw[D6];omega)];simp
  have h:=ET hc aa k;unfold ki;rw[oI a];omega
 ·decide
def adC(h:EB f g c):0<=kn m f g c u v x y/\kn m f g c u v x y<=255:=by
 have e:∀d:Nat->Int,(∀k,0<=d k/\d k<=255)->∀k:Nat,0<=sm d k/\sm d k<=255*k:=λd j k=>by induction k with|zero=>simp[sm]|succ k l=>have:=j k;simp only[sm];omega
 unfold kn;split
 ·have a:=e f h.1 4;have b:=e g h.2.1 4;cases u<;>cases v<;>simp[mH,mN,mT]<;>omega
 split
 ·exact h.1 x
 split
 ·exact h.2.1 y
 split
 ·have a:=nI h (4+x-y-1);have b:=nI h (4+x-y);have c:=nI h (4+x-y+1);unfold ph;omega
 ·unfold BF dG;omega
def GH(h:bV W H xs=AT)(x y:Int):EB (eA W H xs x y u) (eL W H xs x y v) (eC W H xs x y u v):=⟨λk=>afp h x y u k,λk=>afq h x y v k,afr h x y u v⟩
def adD(h:EB f g c):aW (mi m f g c u v) 100000=AT:=M7 λk b=>by have a:k<16:=aE;unfold mi mh;rw[oI a];exact adC h
def abS{b:List Int}{j:Nat}(h:∀k:Nat,0<=b[k]?.getD 0/\b[k]?.getD 0<=255):aW (lW b i j) 100000=AT:=M7 λk d=>by have a:k<16:=aE;unfold lW mI;rw[oI a];exact h _
def Tb.aq{w':rl}{S:List Nat}(h:Tb w)(k:al S w w')(a:0∉S):Tb w':=⟨cC h.pos k.size,λq b=>(nu k h.pos a).trans (h.at_ q b)⟩
def Bl.aq{w':rl}{S:List Nat}{g:Nat}(h:Bl w g xs)(k:al S w w')(a:g∉S):Bl w' g xs:=⟨h.blk.aq k a,h.len⟩
def PZ(W H:Nat)(ref xs:List Int)(x y a:Nat)(m:List Int)(k:Nat):(ko W H ref xs x y a m k).length=16:=by
 unfold ko;split
 ·rfl
 ·rfl
def Q7{W H:Nat}{ref:List Int}(x y a:Nat){m:List Int}(k:Nat)(b:bV W H xs=AT)(hr:nth m 0≠2->bV W H ref=AT):aW (ko W H ref xs x y a m k) 100000=AT:=by
 unfold ko;split
 ·exact adD (GH b _ _)
 ·rename_i h;exact abS (aer (hr h))
end
end Go.Proofs.Q0
