import Derived.Test.YtjjdeakghpmpfaaGreatDoorK26
set_option maxRecDepth 100000
set_option maxHeartbeats 8000000
set_option linter.all false
open Go.Value renaming int->U,slice->Y,bool->a9,agg->a5,pointer->ci,tuple->dl,iface->em
open Go.IntKind renaming i64->O
open Go.Obj renaming cells->ac
open Go.Ending renaming returned->be
open Go renaming Calls->UL,Value->rl,World->ns,bodyPost_end->akv
open Go.IntKind renaming i64->AS
open Go.RowKit renaming intOf->akw
open Go.World renaming size_alloc->BE
open Int renaming natCast_mul->ali
open List renaming all_eq_true->aiE,getElem?_eq_getElem->aiX,replicate->an
namespace Go.Proofs
def Cp{p:Prop}(h:p:=by rw[Int.tmod_eq_emod_of_nonneg (by omega)];exact dr):p:=h
def yl{p:Prop}(h:p:=by go_wp2_with(first|(first|refine eY rfl rfl rfl aG ?_|refine eX aD rfl rfl aG ?_)|(refine iH rfl _ _ rfl _ rfl _ _ rfl dh aG ?_;intro w9 b9 g9 s9));refine bodyPost_ret (v:=a5 (arr _)) (results_cell_row aD _ _ _ _ _ _ _ aD (Bl.blk b9) (Gz.gu underlying82) rfl (by rw[bO,ul];exact mP)) rfl ⟨by rw[I'.out],K4.out.grown g9 λk e=>by have:=aL e;omega⟩):p:=h
def Cq{p:Prop}(h:p:=by show w.heap.size≠w.heap.size+1;omega):p:=h
def Cr{p:Prop}(h:p:=by show w.heap.size<=w.heap.size+1;omega):p:=h
def Lp{p:Prop}(h:p:=by
  go_wp2;go_roundw;case rel=>exact⟨k+1,aa,aH,n1.out,n4.out,n5.out⟩
  case measure=>simp[intOf];omega):p:=h
def uk{p:Prop}(h:p:=by rw[beq_eq_false_iff_ne];omega):p:=h
def Dc{p:Prop}(h:p:=by
  clear tN tO CA qr;go_enter Gz.gf func167,ntmps167;go_wp2;refine uA ai ai ?_;repeat(go_big_quiet_step (first|(go_at_call_of 168 a1;go_at_call_of 168 b1;with_reducible exact Calls.fL (T3.out _))|(go_at_call_of 168 a1;with_reducible exact Calls.fL (T1.out _))|(go_at_call_of 168 b1;with_reducible exact Calls.fL (T2.out _))|(go_at_call_of 168 a;with_reducible exact Calls.fL (T0.out _))))
  refine wpQuiet_nil ?_;rintro _⟨⟨w7,qq⟩,rfl⟩;go_wp2;go_ret;exact⟨rfl,q0.trans qq⟩):p:=h
def xQ{p:Prop}(h:p:=by rw[<-CA];exact IntWalk.i64_in _ ⟨by omega,by omega⟩):p:=h
def ya{p:Prop}(h:p:=by rw[<-qr];exact IntWalk.i64_in _ ⟨by omega,by omega⟩):p:=h
def qY{p:Prop}(h:p:=by first|exact Nat.le_refl _|omega|(simp;done)|(simp;omega)):p:=h
end Go.Proofs
namespace Go.Proofs.Q0
open Go.Proofs.Tryz
variable{x y m i n B:Nat}{c W H vx vy:Int}{w:ns}{u v:Bool}{f g:Nat->Int}{xs:List Int}{A:Option Addr}
section
open Go.RowKit
def Ba(f g:Nat->Int)(c:Int)(x y:Nat):Int:=dA (f x+g y-c) 0 255
def jZ(m:Nat)(f g:Nat->Int)(c:Int)(u v:Bool)(x y:Nat):Int:=
 if m=0 then mb f g u v else if m=1 then f x else if m=2 then g y else if m=3 then oD f g c (4+x-y) else Ba f g c x y
def lP(m:Nat)(f g:Nat->Int)(c:Int)(u v:Bool)(k:Nat):Int:=jZ m f g c u v (k%4) (k/4)
def lQ(m:Nat)(f g:Nat->Int)(c:Int)(u v:Bool):List Int:=a6 (lP m f g c u v) 16
def Qf(m:Nat)(f g:Nat->Int)(c:Int)(u v:Bool):(lQ m f g c u v).length=16:=aD
def Zv(f g:Nat->Int)(u v:Bool)(w:ns)(j:x<4)(k:y<4)(a:EB f g c):
  UL Gz.prog 173 #[a5 (aM f g c u v),U O x,U O y] w λe w'=>e=be (U O (Ba f g c x y))/\Q w w':=by
 have q0:Q w (w.alloc (ac (aM f g c u v) 125)):=aR;have b:=ak.new w 125 (aM f g c u v);have l:=(b.cell x).trans (pJ f g c u v x j);have cb:=(b.cell (4+y)).trans (pK f g c u v y k);have o:(w.alloc (ac (aM f g c u v) 125)).cell? ⟨w.heap.size,8,none⟩=some (U O c):=b.cell 8;obtain⟨p,q⟩:=a.1 x;obtain⟨r,s⟩:=a.2.1 y;obtain⟨c0,t⟩:=a.2.2;have d:Hid (Ba f g c x y=dA (f x+g y-c) 0 255):=rfl;rw[d.out];clear b a d;go_enter Gz.gf func173,ntmps173;go_wp2
 go_quiet((go_at_call 74;exact nO ((vr _ _ _ _).mono λ_ _ h=>⟨h.1,h.2.symm⟩)))
 exact Ln
def tP(n:Nat):rl:=.func (.func n) #[] #[]
def qt:Array rl:=#[tP 169,tP 170,tP 171,tP 172,tP 173]
def acj:(qt.all λx=>x.oneCell')=true:=by simp[qt,tP,Value.oneCell']
def ad3:(Gz.prog.info? 221).map (·.size)=some qt.size:=aC
def vU(m:Nat):Nat:=if m=0 then 169 else if m=1 then 170 else if m=2 then 171 else if m=3 then 172 else 173
def aaE(f g:Nat->Int)(u v:Bool)(x y:Nat)(w:ns)(hm:m<5)(a:x<4)(b:y<4)(d:EB f g c):
  UL Gz.prog (vU m) #[a5 (aM f g c u v),U O x,U O y] w λe w'=>e=be (U O (jZ m f g c u v x y))/\Q w w':=by
 rcases(show m=0\/m=1\/m=2\/m=3\/m=4 by omega) with rfl|rfl|rfl|rfl|rfl
 ·exact aaC f g u v w d
 ·exact Xa f g c u v w a
 ·exact WC f g c u v w b
 ·exact Xd f g u v w a b d
 ·exact Zv f g u v w a b d
def ad4(hm:m<5):∀(args:Array rl)(w:ns),Sem.run Gz.prog (callFunc (vU m) args) w=.ok (.enter (vU m) args) w:=by
 rcases(show m=0\/m=1\/m=2\/m=3\/m=4 by omega) with rfl|rfl|rfl|rfl|rfl
 ·exact(Gz.cl 169)
 ·exact(Gz.cl 170)
 ·exact(Gz.cl 171)
 ·exact(Gz.cl 172)
 ·exact(Gz.cl 173)
def XK(hm:m<5)(hb:EB f g c):
  UL Gz.prog 144 #[a5 (aM f g c u v),U O m] w λe w'=>e=be (a5 (arr (lQ m f g c u v)))/\Q w w':=by
 have F:=((ak.new w 125 (aM f g c u v)).alloc (ac (arr (an 16 0)) 82)).alloc (ac #[.nilFunc,.nilFunc,.nilFunc,.nilFunc,.nilFunc] 221);have s:=(Bl.zero (w.alloc (ac (aM f g c u v) 125))).alloc (ac #[.nilFunc,.nilFunc,.nilFunc,.nilFunc,.nilFunc] 221);have T:=ak.new ((w.alloc (ac (aM f g c u v) 125)).alloc (ac (arr (an 16 0)) 82)) 221 #[.nilFunc,.nilFunc,.nilFunc,.nilFunc,.nilFunc];have G:Q w (((w.alloc (ac (aM f g c u v) 125)).alloc (ac (arr (an 16 0)) 82)).alloc (ac #[.nilFunc,.nilFunc,.nilFunc,.nilFunc,.nilFunc] 221)):=aR;simp only[BE] at s T;have TT:=af λx y z hx hy=>aaE f g u v x y z hm hx hy hb;clear hb;have FC:Hid (∀z:ns,ak z (w.heap.size+1+1) 221 qt->z.cell? ⟨w.heap.size+1+1,m,none⟩=some (.func (.func (vU m)) #[] #[])):=λz h=>(h.cell m).trans (by rcases(show m=0\/m=1\/m=2\/m=3\/m=4 by omega) with rfl|rfl|rfl|rfl|rfl<;>rfl);have Uy:(m:Int)<5:=aa;go_enter Gz.gf func144,ntmps144;go_wp2_with(refine fw (cs':=qt) rfl _ _ _ rfl rfl _ rfl rfl T rfl acj ad3 ?_;intro l P R V;replace F:=F.grown R (λe=>by have:=aL e;omega);replace s:=s.grown R (λe=>by have:=aL e;omega);replace G:=G.grown R (λk e=>by have:=aL e;omega);replace V:w.heap.size+1+1+1<=l.heap.size:=(by rw[V];simp only[BE];omega);clear R T);have X:=Bl.zero l;replace F:=F.alloc (ac (arr (an 16 0)) 82);replace s:=s.alloc (ac (arr (an 16 0)) 82);replace P:=P.alloc (ac (arr (an 16 0)) 82);replace G:=G.alloc (ac (arr (an 16 0)) 82);obtain⟨gB,K⟩:∃z,l.heap.size=z:=⟨_,rfl⟩;rw[K] at X V⊢;have K0:Hid (Q w (l.alloc (ac (arr (an 16 0)) 82))/\ak (l.alloc (ac (arr (an 16 0)) 82)) w.heap.size 125 (aM f g c u v)/\Bl (l.alloc (ac (arr (an 16 0)) 82)) (w.heap.size+1) cn/\ak (l.alloc (ac (arr (an 16 0)) 82)) (w.heap.size+1+1) 221 qt/\Bl (l.alloc (ac (arr (an 16 0)) 82)) gB cn):=⟨G,F,s,P,X⟩;clear G F s P X K;go_loopw[9] (λi wr=>∃k:Nat,k<=16/\i=U O k/\Hid (Q w wr/\ak wr w.heap.size 125 (aM f g c u v)/\Bl wr (w.heap.size+1) cn/\ak wr (w.heap.size+1+1) 221 qt/\Bl wr gB (a6 (λj=>if j<k then lP m f g c u v j else 0) 16))) (λi _=>16-(akw i).toNat)
 case atStart=>exact⟨0,aa,rfl,by rw[rX];exact K0⟩
 case round=>
  obtain⟨k,hk,rfl,hK⟩:=hrel;obtain⟨t,I,S,C,b⟩:=hK.out;clear hK K0;by_cases D:k<16
  ·have o:(k:Int)<16:=by omega
   obtain⟨r,L⟩:∃r,k/4=r:=⟨_,rfl⟩;obtain⟨E,M⟩:∃E,k%4=E:=⟨_,rfl⟩;have d:=sf (lP m f g c u v) k D;have T1:=af λz=>TT.out E r z aa aa;have hF:lP m f g c u v k=jZ m f g c u v E r:=by unfold lP;rw[L,M]
   rw[hF] at d;clear hF;generalize jZ m f g c u v E r=val at d T1;have Z:=af d;have dq:(k:Int)/4=(r:Int):=aa;have dr:(k:Int)%4=(E:Int):=aa;have wq:AS.wrap (r:Int)=(r:Int):=aB _ ⟨aa,aa⟩;have xm:(k:Int).tmod 4=(E:Int):=Cp;have z1:=t.size;have d0:∀i,wr.drew.cell? ⟨w.heap.size,i,none⟩=(#[U O (f 0),U O (f 1),U O (f 2),U O (f 3),U O (g 0),U O (g 1),U O (g 2),U O (g 3),U O c,a9 u,a9 v]:Array rl)[i]?:=I.cell;have dF:=FC.out wr C;have cF:=ad4 hm;clear d L M TT;go_wp2;refine et (λww=>ww.cell? ⟨w.heap.size+1+1,m,none⟩=some (.func (.func (vU m)) #[] #[])) (λj=>decide (10<=j)) ai dF λhS=>?_;refine ah 0 (h:=ah 1 (h:=ah 2 (h:=ah 3 (h:=ah 5 (h:=ah 6 (h:=ah 7 (h:=ah 8 (h:=?_))))))));refine bh (k:=4) ai rfl rfl λK2 a=>?_;go_simp;refine a.out _ _ hS λhS=>?_;clear a K2;refine aV ?_;refine bh (k:=9) ai rfl rfl λK2 a=>?_;go_simp;refine(T1.out _).mono ?_;rintro e wa⟨rfl,J⟩;replace t:=t.drew.trans J;replace I:=ak.q (w:=wr.drew) I J;replace S:=(S.q ((Q.refl _).drew)).q J;replace C:=ak.q (w:=wr.drew) C J;replace b:=(b.q ((Q.refl _).drew)).q J;refine a.out _ _ (FC.out _ C) λhS=>?_;clear a K2;refine aV ?_;refine iu [10,11] 10 ai aq rfl ?_;have c3:=b.at k D;have f3:=b.free k;rw[sB D (Nat.le_refl _)] at c3;have n5:=af (b.set k val);rw[Z.out] at n5;have n1:=af (t.set (p:=⟨gB,k,none⟩) (by show w.heap.size<=gB;omega) (U O val));have n2:=af (I.aN (p:=⟨gB,k,none⟩) (by show w.heap.size≠gB;omega) (U O val));have n3:=af (S.aN (p:=⟨gB,k,none⟩) (by show w.heap.size+1≠gB;omega) (U O val));have n4:=af (C.aN (p:=⟨gB,k,none⟩) (by show w.heap.size+1+1≠gB;omega) (U O val));clear t I S C b hS dF d0 cF wq xm dq dr J;go_wp2;go_roundw;case rel=>exact⟨k+1,aa,aH,n1.out,n2.out,n3.out,n4.out,n5.out⟩
   case measure=>exact bg
  ·have o:k=16:=by omega
   subst o;rw[rV] at b;have ul:=Qf m f g c u v;change Bl wr gB (lQ m f g c u v) at b;generalize N:lQ m f g c u v=vs at b ul⊢;have I':=af N;clear N;have K4:=af t;clear t I C;exact yl
end
section
open Go.RowKit
def ik(W x y:Nat)(p r:List Int):Nat->List Int->List Int
 |0,xs=>xs
 |k+1,xs=>(ik W x y p r k xs).set ((y+k/4)*W+x+k%4) (dA (p[k]?.getD 0+r[k]?.getD 0) 0 255)
def Qg(W x y:Nat)(p r xs:List Int):∀k,(ik W x y p r k xs).length=xs.length
 |0=>rfl
 |k+1=>by rw[ik,List.length_set,Qg W x y p r xs k]
def FD(h:cZ xs=true){v:Int}(h1:0<=v)(b:v<=255):cZ (xs.set i v)=true:=by
 unfold cZ at h⊢;rw[aiE] at h⊢;intro x a;rcases List.mem_or_eq_of_mem_set a with a|rfl
 ·simp_all
 ·exact decide_eq_true ⟨h1,b⟩
def Qh(W x y:Nat)(p r:List Int){xs:List Int}(h:cZ xs=true):∀k,cZ (ik W x y p r k xs)=true
 |0=>h
 |k+1=>FD (Qh W x y p r h k) (by unfold dA;omega) (by unfold dA;omega)
def So{W H k:Nat}(a:x+4<=W)(b:y+4<=H)(d:n=H*W)(e:k<16):(y+k/4)*W+x+k%4<n:=by have:=Ru (y+k/4) W H (x+k%4) aa aa;omega
def ack{W H g c:Nat}{p:List Int}(r:List Int)(N:Own w B (Y (some ⟨g,0,none⟩) n c) n xs)(hn:n=H*W)(P:n<=1024)(hW:W<=32)(hH:H<=32)(hx:x+4<=W)(hy:y+4<=H)
  (lp:p.length=16)(R:r.length=16)(bp:aS p 100000=true)(br:aS r 100000=true):
  UL Gz.prog 146 #[a5 #[U O W,U O H,Y (some ⟨g,0,none⟩) n c],U O x,U O y,a5 (arr p),a5 (arr r)] w λe w'=>e=be (dl #[])/\Own w' B (Y (some ⟨g,0,none⟩) n c) n (ik W x y p r 16 xs)/\av [g] w w':=by
 have hg:=N.block;have NW:=af λk t=>So (k:=k) hx hy hn t;have S:Q w (((w.alloc (ac #[U O W,U O H,Y (some ⟨g,0,none⟩) n c] 30)).alloc (ac (arr p) 82)).alloc (ac (arr r) 82)):=aR;have V:=((ak.new w 30 #[U O W,U O H,Y (some ⟨g,0,none⟩) n c]).alloc (ac (arr p) 82)).alloc (ac (arr r) 82);have J:=(Bl.new (w.alloc (ac #[U O W,U O H,Y (some ⟨g,0,none⟩) n c] 30)) p lp).alloc (ac (arr r) 82);have X:=Bl.new ((w.alloc (ac #[U O W,U O H,Y (some ⟨g,0,none⟩) n c] 30)).alloc (ac (arr p) 82)) r R;simp only[BE] at J X;have l:=N.q S;have Z:=av.gQ [g] S;have s1:=bO r;rw[R] at s1;have HP:=af λk t=>mU bp k t;have HR:=af λk t=>mU br k t;have Jj:(W:Int)<=32:=aa;have Vy:(y:Int)<=32:=aa;have Vz:(x:Int)<=32:=aa;clear S bp br hn hx hy hW hH N;go_enter Gz.gf func146,ntmps146;go_wp2_with(first|(first|refine eY rfl rfl rfl aG ?_|refine eX aD rfl rfl aG ?_));generalize((w.alloc (ac #[U O W,U O H,Y (some ⟨g,0,none⟩) n c] 30)).alloc (ac (arr p) 82)).alloc (ac (arr r) 82)=w0 at V J X l Z⊢;go_loopw[13] (λi wr=>∃k:Nat,k<=16/\i=U O k/\Hid (Own wr B (Y (some ⟨g,0,none⟩) n c) n (ik W x y p r k xs)/\av [g] w wr/\ak wr w.heap.size 30 #[U O W,U O H,Y (some ⟨g,0,none⟩) n c]/\Bl wr (w.heap.size+1) p)) (λi _=>16-(akw i).toNat)
 case atStart=>exact⟨0,aa,rfl,l,Z,V,J⟩
 case round=>
  obtain⟨k,t,rfl,hK⟩:=hrel;obtain⟨C,k2,K,k4⟩:=hK.out;clear hK V J X l Z;by_cases o:k<16
  ·have d:(k:Int)<16:=by omega
   have L:=NW.out k o;have he:=λw=>rq r R o w;obtain⟨p1,p2⟩:=HP.out k aa;obtain⟨r1,r2⟩:=HR.out k aa;have c1:=K.cell 2;have c2:=K.cell 0;have c3:=k4.at k o;have s:Hid (ik W x y p r (k+1) xs=(ik W x y p r k xs).set ((y+k/4)*W+x+k%4) (dA (p[k]?.getD 0+r[k]?.getD 0) 0 255)):=rfl;generalize p[k]?.getD 0=D at c3 p1 p2 s;generalize r[k]?.getD 0=M at he r1 r2 s;obtain⟨b,E⟩:∃b,k/4=b:=⟨_,rfl⟩;obtain⟨a,F⟩:∃a,k%4=a:=⟨_,rfl⟩;have dq:(k:Int)/4=(b:Int):=aa;have dr:(k:Int)%4=(a:Int):=aa;have q4l:b<4:=aa;have r4l:a<4:=aa;rw[E,F] at s L;obtain⟨m,hm⟩:∃m,(y+b)*W=m:=⟨_,rfl⟩;rw[hm] at s L;have G:((y:Int)+(b:Int))*(W:Int)=(m:Int):=by rw[<-hm,ali,Int.natCast_add]
   have c4:=C.at (m+x+a) L;have f4:=C.free (m+x+a);generalize(ik W x y p r k xs)[m+x+a]?.getD 0=old at c4;have T:=af λz=>vr (D+M) 0 255 z;obtain⟨v,hv⟩:∃v,dA (D+M) 0 255=v:=⟨_,rfl⟩;rw[hv] at T s;have P:=af (C.set (m+x+a) v);rw[<-s.out] at P;have n2:=af (k2.set (p:=⟨g,m+x+a,none⟩) (.inl aj) (U O v));have n3:=af (K.aN (p:=⟨g,m+x+a,none⟩) mG (U O v));have n4:=af (k4.aN (p:=⟨g,m+x+a,none⟩) qX (U O v));have wq:AS.wrap (b:Int)=(b:Int):=aB _ ⟨aa,aa⟩;have xm:(k:Int).tmod 4=(a:Int):=Cp;have t0:AS.wrap ((y:Int)+(b:Int))=(y:Int)+(b:Int):=aB _ ⟨aa,aa⟩;have t2:AS.wrap ((m:Int)+(x:Int))=(m:Int)+(x:Int):=aB _ ⟨aa,aa⟩;have t3:AS.wrap ((m:Int)+(x:Int)+(a:Int))=(m:Int)+(x:Int)+(a:Int):=aB _ ⟨aa,aa⟩;have t4:AS.wrap (D+M)=D+M:=aB _ ⟨aa,aa⟩;have i1:((m:Int)+(x:Int)+(a:Int)).toNat=m+x+a:=aa;have i2:(0:Int)<=(m:Int)+(x:Int)+(a:Int):=aa;have i3:(m:Int)+(x:Int)+(a:Int)<(n:Int):=aa;have t1:AS.wrap (((y:Int)+(b:Int))*(W:Int))=(m:Int):=by rw[G];exact aB _ ⟨by omega,by omega⟩
   clear C k2 K k4 hv G hm L E F s HP HR NW;go_wp2;refine et (λww=>ww.cell? ⟨w.heap.size,2,none⟩=some (Y (some ⟨g,0,none⟩) n c)/\ww.cell? ⟨w.heap.size,0,none⟩=some (U O W)/\ww.cell? ⟨w.heap.size+1,k,none⟩=some (U O D)) (λj=>decide (20<=j)) ai ⟨c1,c2,c3⟩ λhS=>?_;refine ah 0 (h:=ah 1 (h:=ah 2 (h:=ah 3 (h:=ah 4 (h:=ah 5 (h:=ah 6 (h:=ah 7 (h:=ah 8 (h:=ah 9 (h:=ah 10 (h:=ah 11 (h:=ah 12 (h:=ah 13 (h:=ah 14 (h:=ah 15 (h:=ah 16 (h:=ah 17 (h:=ah 18 (h:=?_)))))))))))))))))));refine bh (k:=19) ai rfl rfl λK2 I=>?_;go_simp;refine(T.out _).mono ?_;rintro e wa⟨rfl,rfl⟩;refine I.out _ _ hS λhS=>?_;clear I K2;refine aV ?_;refine iu [20,21] 20 ai aq rfl ?_;clear c1 c2 c3 hS;clear wq xm t0 t1 t2 t3 dq dr;go_wp2;go_roundw;case rel=>exact⟨k+1,aa,aH,P.out.drew,n2.out.drew,n3.out,n4.out.q ((Q.refl _).drew)⟩
   case measure=>exact bg
  ·have d:k=16:=by omega
   subst d;go_wp2;exact akv (v:=dl #[]) (by simp[results,results146,go_sem]) rfl ⟨rfl,C,k2⟩
def acm{W H g c:Nat}{p:List Int}(r:List Int)(R:Own w B (Y (some ⟨g,0,none⟩) n c) n xs)(hn:n=H*W)(S:n<=1024)(hW:W<=32)(hH:H<=32)(hx:x+4<=W)(hy:y+4<=H)
  (lp:p.length=16)(lr:r.length=16)(bp:aS p 100000=true)(br:aS r 100000=true):
  UL Gz.prog 88 #[a5 #[U O W,U O H,Y (some ⟨g,0,none⟩) n c],U O x,U O y,a5 (arr p),a5 (arr r)] w λe w'=>e=be (dl #[])/\Own w' B (Y (some ⟨g,0,none⟩) n c) n (ik W x y p r 16 xs)/\av [g] w w':=by
 have hg:=R.block;have NW:=af λk t=>So (k:=k) hx hy hn t;have V:Q w (((w.alloc (ac #[U O W,U O H,Y (some ⟨g,0,none⟩) n c] 30)).alloc (ac (arr p) 82)).alloc (ac (arr r) 82)):=aR;have X:=((ak.new w 30 #[U O W,U O H,Y (some ⟨g,0,none⟩) n c]).alloc (ac (arr p) 82)).alloc (ac (arr r) 82);have K:=(Bl.new (w.alloc (ac #[U O W,U O H,Y (some ⟨g,0,none⟩) n c] 30)) p lp).alloc (ac (arr r) 82);have L:=Bl.new ((w.alloc (ac #[U O W,U O H,Y (some ⟨g,0,none⟩) n c] 30)).alloc (ac (arr p) 82)) r lr;simp only[BE] at K L;have l:=R.q V;have Z:=av.gQ [g] V;have s1:=bO r;rw[lr] at s1;have HP:=af λk t=>mU bp k t;have HR:=af λk t=>mU br k t;have Jj:(W:Int)<=32:=aa;have Vy:(y:Int)<=32:=aa;have Vz:(x:Int)<=32:=aa;clear V bp br hn hx hy hW hH R;go_enter Gz.gf func88,ntmps88;go_wp2_with(first|(first|refine eY rfl rfl rfl aG ?_|refine eX aD rfl rfl aG ?_));generalize((w.alloc (ac #[U O W,U O H,Y (some ⟨g,0,none⟩) n c] 30)).alloc (ac (arr p) 82)).alloc (ac (arr r) 82)=w0 at X K L l Z⊢;go_loopw[10] (λi wr=>∃k:Nat,k<=16/\i=U O k/\Hid (Own wr B (Y (some ⟨g,0,none⟩) n c) n (ik W x y p r k xs)/\av [g] w wr/\ak wr w.heap.size 30 #[U O W,U O H,Y (some ⟨g,0,none⟩) n c]/\Bl wr (w.heap.size+1) p/\Bl wr (w.heap.size+1+1) r)) (λi _=>16-(akw i).toNat)
 case atStart=>exact⟨0,aa,rfl,l,Z,X,K,L⟩
 case round=>
  obtain⟨k,t,rfl,hK⟩:=hrel;obtain⟨C,k2,M,k4,k5⟩:=hK.out;clear hK X K L l Z;by_cases o:k<16
  ·have d:(k:Int)<16:=by omega
   have N:=NW.out k o;obtain⟨p1,p2⟩:=HP.out k aa;obtain⟨r1,r2⟩:=HR.out k aa;have c1:=M.cell 2;have c2:=M.cell 0;have c3:=k4.at k o;have c5:=k5.at k o;have s:Hid (ik W x y p r (k+1) xs=(ik W x y p r k xs).set ((y+k/4)*W+x+k%4) (dA (p[k]?.getD 0+r[k]?.getD 0) 0 255)):=rfl;generalize p[k]?.getD 0=D at c3 p1 p2 s;generalize r[k]?.getD 0=E at c5 r1 r2 s;obtain⟨b,F⟩:∃b,k/4=b:=⟨_,rfl⟩;obtain⟨a,G⟩:∃a,k%4=a:=⟨_,rfl⟩;have dq:(k:Int)/4=(b:Int):=aa;have dr:(k:Int)%4=(a:Int):=aa;have q4l:b<4:=aa;have r4l:a<4:=aa;rw[F,G] at s N;obtain⟨m,hm⟩:∃m,(y+b)*W=m:=⟨_,rfl⟩;rw[hm] at s N;have I:((y:Int)+(b:Int))*(W:Int)=(m:Int):=by rw[<-hm,ali,Int.natCast_add]
   have c4:=C.at (m+x+a) N;have f4:=C.free (m+x+a);generalize(ik W x y p r k xs)[m+x+a]?.getD 0=old at c4;have T:=af λz=>vF (D+E) 0 255 z aq;obtain⟨v,hv⟩:∃v,dA (D+E) 0 255=v:=⟨_,rfl⟩;rw[hv] at T s;have S:=af (C.set (m+x+a) v);rw[<-s.out] at S;have n2:=af (k2.set (p:=⟨g,m+x+a,none⟩) (.inl aj) (U O v));have n3:=af (M.aN (p:=⟨g,m+x+a,none⟩) mG (U O v));have n5:=af (k5.aN (p:=⟨g,m+x+a,none⟩) (by show w.heap.size+1+1≠g;omega) (U O v));have n4:=af (k4.aN (p:=⟨g,m+x+a,none⟩) qX (U O v));have wq:AS.wrap (b:Int)=(b:Int):=aB _ ⟨aa,aa⟩;have xm:(k:Int).tmod 4=(a:Int):=Cp;have t0:AS.wrap ((y:Int)+(b:Int))=(y:Int)+(b:Int):=aB _ ⟨aa,aa⟩;have t2:AS.wrap ((m:Int)+(x:Int))=(m:Int)+(x:Int):=aB _ ⟨aa,aa⟩;have t3:AS.wrap ((m:Int)+(x:Int)+(a:Int))=(m:Int)+(x:Int)+(a:Int):=aB _ ⟨aa,aa⟩;have t4:AS.wrap (D+E)=D+E:=aB _ ⟨aa,aa⟩;have i1:((m:Int)+(x:Int)+(a:Int)).toNat=m+x+a:=aa;have i2:(0:Int)<=(m:Int)+(x:Int)+(a:Int):=aa;have i3:(m:Int)+(x:Int)+(a:Int)<(n:Int):=aa;have t1:AS.wrap (((y:Int)+(b:Int))*(W:Int))=(m:Int):=by rw[I];exact aB _ ⟨by omega,by omega⟩
   clear C k2 M k4 k5 hv I hm N F G s HP HR NW;go_wp2;refine et (λP=>P.cell? ⟨w.heap.size,2,none⟩=some (Y (some ⟨g,0,none⟩) n c)/\P.cell? ⟨w.heap.size,0,none⟩=some (U O W)/\P.cell? ⟨w.heap.size+1,k,none⟩=some (U O D)/\P.cell? ⟨w.heap.size+1+1,k,none⟩=some (U O E)) (λj=>decide (22<=j)) ai ⟨c1,c2,c3,c5⟩ λhS=>?_;refine ah 0 (h:=ah 1 (h:=ah 2 (h:=ah 3 (h:=ah 4 (h:=ah 5 (h:=ah 6 (h:=ah 7 (h:=ah 8 (h:=ah 9 (h:=ah 10 (h:=ah 11 (h:=ah 12 (h:=ah 13 (h:=ah 14 (h:=ah 15 (h:=ah 16 (h:=ah 17 (h:=ah 18 (h:=ah 19 (h:=ah 20 (h:=?_)))))))))))))))))))));refine bh (k:=21) ai rfl rfl λK2 J=>?_;go_simp;refine(T.out _).mono ?_;rintro e wa⟨rfl,rfl⟩;refine J.out _ _ hS λhS=>?_;clear J K2;refine aV ?_;refine iu [22,23] 22 ai aq rfl ?_;clear c1 c2 c3 c5 hS;clear wq xm t0 t1 t2 t3 dq dr;go_wp2;go_roundw;case rel=>exact⟨k+1,aa,aH,S.out.drew,n2.out.drew,n3.out,n4.out.q ((Q.refl _).drew),n5.out.q ((Q.refl _).drew)⟩
   case measure=>exact bg
  ·have d:k=16:=by omega
   subst d;go_wp2;exact akv (v:=dl #[]) (by simp[results,results88,go_sem]) rfl ⟨rfl,C,k2⟩
end
section
open Go.RowKit
def mg(a:List Int)(i j k:Nat):Int:=a[(j+k/4)*8+i+k%4]?.getD 0
def lF(a:List Int)(i j:Nat):List Int:=a6 (mg a i j) 16
def Pd(a:List Int)(i j:Nat):(lF a i j).length=16:=aD
def partAt(k:Nat)(w:ns)(a:k<4):UL Gz.prog 142 #[U O k] w λe w'=>e=be (dl #[U O ((k%2*4:Nat):Int),U O ((k/2*4:Nat):Int)])/\w=w':=by
 all_goals
  go_enter Gz.gf func142,ntmps142;go_wp2;refine bodyPost_ret (v:=dl #[U O _,U O _]) (by simp[results,results142,go_sem]) rfl ⟨rfl,rfl⟩
def partOf(i j:Nat)(A:Option Addr)(c B:Nat)(a:List Int)(w:ns)(F:Rd w B A a)(R:B<=w.heap.size)(S:a.length=64)(hi:i<=4)(T:j<=4):
  UL Gz.prog 145 #[Y A 64 c,U O i,U O j] w λe w'=>e=be (a5 (arr (lF a i j)))/\Q w w':=by
 obtain⟨b,o,rfl,V,hc⟩:=F aa;have G:Q w ((w.alloc (ac (arr (an 16 0)) 82)).alloc (ac (arr (an 16 0)) 82)):=aR;have I:=(Bl.zero w).alloc (ac (arr (an 16 0)) 82);have t:=Bl.zero (w.alloc (ac (arr (an 16 0)) 82));simp only[BE] at t;have J:Hid (∀k,k<64->w.cell? ⟨b,o+k,none⟩=some (U O (a[k]?.getD 0))):=λk K=>hc k aa;clear hc F;go_enter Gz.gf func145,ntmps145;go_wp2;go_loopw[9] (λz wr=>∃k:Nat,k<=16/\z=U O k/\Hid (Bl wr w.heap.size cn/\Q w wr/\Bl wr (w.heap.size+1) (a6 (λl=>if l<k then mg a i j l else 0) 16))) (λz _=>16-(akw z).toNat)
 case atStart=>exact⟨0,aa,rfl,I,G,by rw[rX];exact t⟩
 case round=>
  obtain⟨k,K,rfl,hK⟩:=hrel;obtain⟨L,C,r⟩:=hK.out;clear hK I t G;by_cases h:k<16
  ·have d:(k:Int)<16:=by omega
   have q:=sf (mg a i j) k h;obtain⟨p,M⟩:∃p,(j+k/4)*8+i+k%4=p:=⟨_,rfl⟩;have s:p<64:=aa;have hc:=(C.cell b (o+p) aa).trans (J.out p s);have D:mg a i j k=a[p]?.getD 0:=by unfold mg;rw[M]
   rw[D] at q;generalize a[p]?.getD 0=v at hc q;have N:((j:Int)+(k:Int)/4)*8+(i:Int)+(k:Int)%4=(p:Int):=aa;have P:=r.at k h;have f3:=r.free k;rw[sB h (Nat.le_refl _)] at P;have n5:=af (r.set k v);rw[q] at n5;have n1:=af (L.aN (p:=⟨w.heap.size+1,k,none⟩) Cq (U O v));have n4:=af (C.set (p:=⟨w.heap.size+1,k,none⟩) Cr (U O v));exact Lp
  ·have d:k=16:=by omega
   subst d;rw[rV] at r;have ul:=Pd a i j;change Bl wr (w.heap.size+1) (lF a i j) at r;generalize E:lF a i j=X at r ul⊢;have I':=af E;have K4:=af C;exact yl
def ae1{q:Nat}(c:Nat){a:List Int}(G:Rd w B A a)(hB:B<=w.heap.size)(hl:a.length=64)(hq:q<4):
  UL Gz.prog 87 #[Y A 64 c,U O q] w λe w'=>e=be (a5 (arr (lF a (q%2*4) (q/2*4))))/\Q w w':=by
 obtain⟨b,o,rfl,hb,hc⟩:=G aa;obtain⟨i,hi⟩:∃i,q%2*4=i:=⟨_,rfl⟩;obtain⟨j,M⟩:∃j,q/2*4=j:=⟨_,rfl⟩;have N:(q:Int)%2*4=(i:Int):=aa;have P:(q:Int)/2*4=(j:Int):=aa;have R:i<=4:=aa;have S:j<=4:=aa;rw[hi,M];have I:Q w ((w.alloc (ac (arr (an 16 0)) 82)).alloc (ac (arr (an 16 0)) 82)):=aR;have J:=(Bl.zero w).alloc (ac (arr (an 16 0)) 82);have E:=Bl.zero (w.alloc (ac (arr (an 16 0)) 82));simp only[BE] at E;have T:Hid (∀k,k<64->w.cell? ⟨b,o+k,none⟩=some (U O (a[k]?.getD 0))):=λk V=>hc k aa;clear hc G;go_enter Gz.gf func87,ntmps87;go_wp2;go_loopw[6] (λF wr=>∃k:Nat,k<=16/\F=U O k/\Hid (Bl wr w.heap.size cn/\Q w wr/\Bl wr (w.heap.size+1) (a6 (λl=>if l<k then mg a i j l else 0) 16))) (λF _=>16-(akw F).toNat)
 case atStart=>exact⟨0,aa,rfl,J,I,by rw[rX];exact E⟩
 case round=>
  obtain⟨k,V,rfl,hK⟩:=hrel;obtain⟨K,t,r⟩:=hK.out;clear hK J E I;by_cases s:k<16
  ·have h:(k:Int)<16:=by omega
   have d:=sf (mg a i j) k s;obtain⟨p,L⟩:∃p,(j+k/4)*8+i+k%4=p:=⟨_,rfl⟩;have z:p<64:=aa;have hc:=(t.cell b (o+p) aa).trans (T.out p z);have C:mg a i j k=a[p]?.getD 0:=by unfold mg;rw[L]
   rw[C] at d;generalize a[p]?.getD 0=v at hc d;have X:((j:Int)+(k:Int)/4)*8+(i:Int)+(k:Int)%4=(p:Int):=aa;have Z:=r.at k s;have f3:=r.free k;rw[sB s (Nat.le_refl _)] at Z;have n5:=af (r.set k v);rw[d] at n5;have n1:=af (K.aN (p:=⟨w.heap.size+1,k,none⟩) Cq (U O v));have n4:=af (t.set (p:=⟨w.heap.size+1,k,none⟩) Cr (U O v));clear K t r d C L;exact Lp
  ·have h:k=16:=by omega
   subst h;rw[rV] at r;have ul:=Pd a i j;change Bl wr (w.heap.size+1) (lF a i j) at r;generalize D:lF a i j=vs at r ul⊢;have I':=af D;clear D;have K4:=af t;clear t;exact yl
end
section
open Go.RowKit
def na(W H:Int)(xs:List Int)(x y:Int):Int:=
 if x%2=0 then(if y%2=0 then bD W H xs (x/2) (y/2) else(bD W H xs (x/2) (y/2)+bD W H xs (x/2) (y/2+1)+1)/2)
 else(if y%2=0 then(bD W H xs (x/2) (y/2)+bD W H xs (x/2+1) (y/2)+1)/2
  else(bD W H xs (x/2) (y/2)+bD W H xs (x/2+1) (y/2)+bD W H xs (x/2) (y/2+1)+bD W H xs (x/2+1) (y/2+1)+2)/4)
def aaF{x y:Int}(c:Nat)(p:Rd w B A xs)(r:B<=w.heap.size)(s:Hid (xs.length=n))(j:Hid (bS W H xs=true))(M: -1000000<=x)(N:x<=1000000)(P: -1000000<=y)(R:y<=1000000):
  UL Gz.prog 167 #[a5 #[U O W,U O H,Y A n c],U O x,U O y] w λe w'=>e=be (U O (na W H xs x y))/\Q w w':=by
 have q0:Q w (w.alloc (ac #[U O W,U O H,Y A n c] 30)):=aR;have k:=(ak.new w 30 #[U O W,U O H,Y A n c]);have T:Hid (∀(z:iF (w.alloc (ac #[U O W,U O H,Y A n c] 30)))(u v:Int),UL Gz.prog 168 #[a5 #[U O W,U O H,Y A n c],U O u,U O v] z.at_ λe w'=>e=be (U O (bD W H xs u v))/\Q z.at_ w'):=λz u v=>Rg u v c (p.q (q0.trans z.q) r) (aJ r (q0.trans z.q).size) s j;have S:Hid (∀u v,0<=bD W H xs u v/\bD W H xs u v<=255):=λu v=>m8 j.out u v;have V:=k.fL;have X:=k.cell;clear p k j;obtain⟨a,t⟩:∃a,x/2=a:=⟨_,rfl⟩;obtain⟨b,C⟩:∃b,y/2=b:=⟨_,rfl⟩;have D:0<=bD W H xs a b/\bD W H xs a b<=255:=S.out a b;have E:=S.out (a+1) b;have F:=S.out a (b+1);have G:=S.out (a+1) (b+1);unfold na;rw[t,C];have T0:=af λz=>T.out z a b;have T1:=af λz=>T.out z (a+1) b;have T2:=af λz=>T.out z a (b+1);have T3:=af λz=>T.out z (a+1) (b+1);generalize bD W H xs a b=d at D T0⊢;generalize bD W H xs (a+1) b=s1 at E T1⊢;generalize bD W H xs a (b+1)=s2 at F T2⊢;generalize bD W H xs (a+1) (b+1)=h at G T3⊢;obtain⟨a1,CA⟩:∃a1,a+1=a1:=⟨_,rfl⟩;obtain⟨b1,qr⟩:∃b1,b+1=b1:=⟨_,rfl⟩;rw[CA] at T1 T3;rw[qr] at T2 T3;clear T S;have Z:AS.wrap (d+s1)=d+s1:=aB _ ⟨aa,aa⟩;have w2:AS.wrap (d+s2)=d+s2:=aB _ ⟨aa,aa⟩;have w3:AS.wrap (d+s1+1)=d+s1+1:=aB _ ⟨aa,aa⟩;have w4:AS.wrap (d+s2+1)=d+s2+1:=aB _ ⟨aa,aa⟩;have w5:AS.wrap (d+s1+s2)=d+s1+s2:=aB _ ⟨aa,aa⟩;have w6:AS.wrap (d+s1+s2+h)=d+s1+s2+h:=aB _ ⟨aa,aa⟩;have I:AS.wrap (d+s1+s2+h+2)=d+s1+s2+h+2:=aB _ ⟨aa,aa⟩;have d1:(d+s1+1).tdiv 2=(d+s1+1)/2:=jF aa;have d2:(d+s2+1).tdiv 2=(d+s2+1)/2:=jF aa;have d3:(d+s1+s2+h+2).tdiv 4=(d+s1+s2+h+2)/4:=jF aa;have g1:AS.wrap ((d+s1+1)/2)=(d+s1+1)/2:=aB _ ⟨aa,aa⟩;have g2:AS.wrap ((d+s2+1)/2)=(d+s2+1)/2:=aB _ ⟨aa,aa⟩;have g3:AS.wrap ((d+s1+s2+h+2)/4)=(d+s1+s2+h+2)/4:=aB _ ⟨aa,aa⟩;by_cases tN:x%2=0;all_goals by_cases tO:y%2=0
 ·rw[if_pos tN,if_pos tO];have l:(x+1)/2=a:=aa;have o:(y+1)/2=b:=aa;clear tN tO CA qr;go_enter Gz.gf func167,ntmps167;go_wp2;refine(T0.out ⟨_,Q.refl _⟩).mono ?_;rintro e I⟨rfl,J⟩;go_wp2;go_ret;exact⟨rfl,q0.trans J⟩
 ·rw[if_pos tN,if_neg tO];have l:(x+1)/2=a:=aa;have o:(y+1)/2=b1:=aa;have K:(b==b1)=false:=uk;exact Dc
 ·rw[if_neg tN,if_pos tO];have l:(x+1)/2=a1:=aa;have o:(y+1)/2=b:=aa;have L:(a==a1)=false:=uk;exact Dc
 ·rw[if_neg tN,if_neg tO];have l:(x+1)/2=a1:=aa;have o:(y+1)/2=b1:=aa;have L:(a==a1)=false:=uk;have K:(b==b1)=false:=uk;exact Dc
theorem Th(x:Int):x.tmod 2=0<->x%2=0:=by grind
def aaG{x y:Int}(c:Nat)(hx:Rd w B A xs)(hB:B<=w.heap.size)(hn:Hid (xs.length=n))(V:Hid (bS W H xs=true))(x1: -1000000<=x)(x2:x<=1000000)(y1: -1000000<=y)(y2:y<=1000000):
  UL Gz.prog 124 #[a5 #[U O W,U O H,Y A n c],U O x,U O y] w λe w'=>e=be (U O (na W H xs x y))/\Q w w':=by
 have E:Q w (w.alloc (ac #[U O W,U O H,Y A n c] 30)):=aR;have F:=(ak.new w 30 #[U O W,U O H,Y A n c]);have T:Hid (∀(z:iF (w.alloc (ac #[U O W,U O H,Y A n c] 30)))(u v:Int),UL Gz.prog 149 #[a5 #[U O W,U O H,Y A n c],U O u,U O v] z.at_ λe w'=>e=be (U O (bD W H xs u v))/\Q z.at_ w'):=λz u v=>ad1 u v c (hx.q (E.trans z.q) hB) (aJ hB (E.trans z.q).size) hn V;have S:Hid (∀u v,0<=bD W H xs u v/\bD W H xs u v<=255):=λu v=>m8 V.out u v;have ba:=F.fL;have bc:=F.cell;clear hx V;obtain⟨a,G⟩:∃a,x/2=a:=⟨_,rfl⟩;obtain⟨b,I⟩:∃b,y/2=b:=⟨_,rfl⟩;have m0:0<=bD W H xs a b/\bD W H xs a b<=255:=S.out a b;have m1:=S.out (a+1) b;have m2:=S.out a (b+1);have m3:=S.out (a+1) (b+1);unfold na;rw[G,I];have J:=af λz=>T.out z a b;have K:=af λz=>T.out z (a+1) b;have L:=af λz=>T.out z a (b+1);have M:=af λz=>T.out z (a+1) (b+1);generalize bD W H xs a b=d at m0 J⊢;generalize bD W H xs (a+1) b=s1 at m1 K⊢;generalize bD W H xs a (b+1)=s2 at m2 L⊢;generalize bD W H xs (a+1) (b+1)=r at m3 M⊢;obtain⟨s,CA⟩:∃s,a+1=s:=⟨_,rfl⟩;obtain⟨t,qr⟩:∃t,b+1=t:=⟨_,rfl⟩;rw[CA] at K M;rw[qr] at L M;clear T S;have w1:AS.wrap (d+s1)=d+s1:=aB _ ⟨aa,aa⟩;have w2:AS.wrap (d+s2)=d+s2:=aB _ ⟨aa,aa⟩;have w3:AS.wrap (d+s1+1)=d+s1+1:=aB _ ⟨aa,aa⟩;have w4:AS.wrap (d+s2+1)=d+s2+1:=aB _ ⟨aa,aa⟩;have w5:AS.wrap (d+s1+s2)=d+s1+s2:=aB _ ⟨aa,aa⟩;have w6:AS.wrap (d+s1+s2+r)=d+s1+s2+r:=aB _ ⟨aa,aa⟩;have C:AS.wrap (d+s1+s2+r+2)=d+s1+s2+r+2:=aB _ ⟨aa,aa⟩;have d1:(d+s1+1).tdiv 2=(d+s1+1)/2:=jF aa;have d2:(d+s2+1).tdiv 2=(d+s2+1)/2:=jF aa;have d3:(d+s1+s2+r+2).tdiv 4=(d+s1+s2+r+2)/4:=jF aa;have g1:AS.wrap ((d+s1+1)/2)=(d+s1+1)/2:=aB _ ⟨aa,aa⟩;have g2:AS.wrap ((d+s2+1)/2)=(d+s2+1)/2:=aB _ ⟨aa,aa⟩;have g3:AS.wrap ((d+s1+s2+r+2)/4)=(d+s1+s2+r+2)/4:=aB _ ⟨aa,aa⟩;have l:=Th x;have o:=Th y;have N:=af λw=>Fh x 2 w aa aa aa aa;have P:=af λw=>Fh y 2 w aa aa aa aa;rw[G] at N;rw[I] at P;by_cases j:x%2=0;all_goals by_cases k:y%2=0
 ·rw[if_pos j,if_pos k];have ex:(x.tmod 2==0)=true:=by rw[beq_iff_eq];exact l.2 j
  have X:(y.tmod 2==0)=true:=by rw[beq_iff_eq];exact o.2 k
  have Z:AS.wrap (a+1)=s:=xQ;have c2:AS.wrap (b+1)=t:=ya;clear j k l o G I;have A1:=af CA;have B1:=af qr;clear CA qr;go_enter Gz.gf func124,ntmps124;go_wp2;refine(N.out _).mono ?_;rintro e w'⟨rfl,rfl⟩;go_wp2;refine(P.out _).mono ?_;rintro e w'⟨rfl,rfl⟩;go_wp2;refine(J.out ⟨_,Q.refl _⟩).mono ?_;rintro e C⟨rfl,p⟩;have D:=E.trans p;go_wp2;go_ret;exact⟨rfl,D⟩
 ·rw[if_pos j,if_neg k];have ex:(x.tmod 2==0)=true:=by rw[beq_iff_eq];exact l.2 j
  have X:(y.tmod 2==0)=false:=by rw[beq_eq_false_iff_ne];exactλh=>k (o.1 h)
  have Z:AS.wrap (a+1)=s:=xQ;have c2:AS.wrap (b+1)=t:=ya;clear j k l o G I;have A1:=af CA;have B1:=af qr;clear CA qr;go_enter Gz.gf func124,ntmps124;go_wp2;refine(N.out _).mono ?_;rintro e w'⟨rfl,rfl⟩;go_wp2;refine(P.out _).mono ?_;rintro e w'⟨rfl,rfl⟩;go_wp2;refine(J.out ⟨_,Q.refl _⟩).mono ?_;rintro e C⟨rfl,p⟩;have D:=E.trans p;have bc:=F.oj p;go_wp2;refine(L.out ⟨_,p⟩).mono ?_;rintro e w8⟨rfl,R⟩;go_wp2;go_ret;exact⟨rfl,D.trans R⟩
 ·rw[if_neg j,if_pos k];have ex:(x.tmod 2==0)=false:=by rw[beq_eq_false_iff_ne];exactλh=>j (l.1 h)
  have X:(y.tmod 2==0)=true:=by rw[beq_iff_eq];exact o.2 k
  have Z:AS.wrap (a+1)=s:=xQ;have c2:AS.wrap (b+1)=t:=ya;clear j k l o G I;have A1:=af CA;have B1:=af qr;clear CA qr;go_enter Gz.gf func124,ntmps124;go_wp2;refine(N.out _).mono ?_;rintro e w'⟨rfl,rfl⟩;go_wp2;refine(P.out _).mono ?_;rintro e w'⟨rfl,rfl⟩;go_wp2;refine(J.out ⟨_,Q.refl _⟩).mono ?_;rintro e C⟨rfl,p⟩;have D:=E.trans p;have bc:=F.oj p;go_wp2;refine(K.out ⟨_,p⟩).mono ?_;rintro e w8⟨rfl,R⟩;go_wp2;go_ret;exact⟨rfl,D.trans R⟩
 ·rw[if_neg j,if_neg k];have ex:(x.tmod 2==0)=false:=by rw[beq_eq_false_iff_ne];exactλh=>j (l.1 h)
  have X:(y.tmod 2==0)=false:=by rw[beq_eq_false_iff_ne];exactλh=>k (o.1 h)
  have Z:AS.wrap (a+1)=s:=xQ;have c2:AS.wrap (b+1)=t:=ya;clear j k l o G I;have A1:=af CA;have B1:=af qr;clear CA qr;go_enter Gz.gf func124,ntmps124;go_wp2;refine(N.out _).mono ?_;rintro e w'⟨rfl,rfl⟩;go_wp2;refine(P.out _).mono ?_;rintro e w'⟨rfl,rfl⟩;go_wp2;refine(J.out ⟨_,Q.refl _⟩).mono ?_;rintro e C⟨rfl,p⟩;have D:=E.trans p;have ba:=λ(z:iF C)=>F.oj (p.trans z.q);have K:=af λ(z:iF C)=>K.out ⟨z.at_,p.trans z.q⟩;have L:=af λ(z:iF C)=>L.out ⟨z.at_,p.trans z.q⟩;have M:=af λ(z:iF C)=>M.out ⟨z.at_,p.trans z.q⟩;clear F;go_wp2;refine uA ai ai ?_;repeat(go_big_quiet_step (first|(go_at_call_of 149 s;go_at_call_of 149 t;with_reducible exact Calls.fL (M.out _))|(go_at_call_of 149 s;with_reducible exact Calls.fL (K.out _))|(go_at_call_of 149 t;with_reducible exact Calls.fL (L.out _))|(go_at_call_of 149 a;with_reducible exact Calls.fL (J.out _))))
  refine wpQuiet_nil ?_;rintro _⟨⟨w8,R⟩,rfl⟩;go_wp2;go_ret;exact⟨rfl,D.trans R⟩
end
section
open Go.RowKit
def qu(W H:Int)(xs:List Int)(x y vx vy:Int)(k:Nat):Int:=na W H xs (2*(x+(k%8:Nat))+vx) (2*(y+(k/8:Nat))+vy)
def kI(W H:Int)(xs:List Int)(x y vx vy:Int):List Int:=a6 (qu W H xs x y vx vy) 64
def ad5(h:bS W H xs=true){x y:Int}:0<=na W H xs x y/\na W H xs x y<=255:=by have a:=m8 h (x/2) (y/2);have b:=m8 h (x/2+1) (y/2);have c:=m8 h (x/2) (y/2+1);have d:=m8 h (x/2+1) (y/2+1);unfold na;split<;>split<;>omega
def Ri(W H:Int)(xs:List Int)(x y vx vy:Int)(j:Nat)(hi:i<8):qu W H xs x y vx vy (j*8+i)=na W H xs (2*(x+(i:Int))+vx) (2*(y+(j:Int))+vy):=by unfold qu;rw[show(j*8+i)%8=i by omega,show(j*8+i)/8=j by omega]
def vj{x y:Int}:(kI W H xs x y vx vy).length=64:=aD
def ae2(h:bS W H xs=true){x y:Int}(k:Nat):0<=(kI W H xs x y vx vy)[k]?.getD 0/\(kI W H xs x y vx vy)[k]?.getD 0<=255:=by
 by_cases a:k<64
 ·unfold kI;rw[nY a];exact ad5 h
 ·rw[List.getElem?_eq_none (by rw[vj];omega)];simp
def Zw (x y:Int) (c:Nat) (p : Rd w B A xs) (N : B ≤ w.heap.size) (P : Hid (xs.length = n)) (R : Hid (bS W H xs = true))
    (x1 : 0 ≤ x) (x2 : x ≤ 32) (y1 : 0 ≤ y) (y2 : y ≤ 32) (S : -16 ≤ vx) (T : vx ≤ 16) (V : -16 ≤ vy) (X : vy ≤ 16) :
    UL Gz.prog 141 #[a5 #[U O W, U O H, Y A n c], U O x, U O y, a5 #[U O vx, U O vy]] w fun e w' => ∃ v, e = be v ∧ Own w' w.heap.size v 64 (kI W H xs x y vx vy) ∧ Q w w' := by
  have r : Q w ((w.alloc (ac #[U O W, U O H, Y A n c] 30)).alloc (ac #[U O vx, U O vy] 80)) := (by repeat (first | exact Q.refl _ | assumption | refine Q.drewN ?_ _ | refine Q.drew ?_ | refine Q.alloc ?_ _ | refine Q.trans ?_ (by assumption) | refine Q.set ?_ (by first | exact au _ | omega | (simp; done) | (simp; omega)) _))
  have J := (ak.new w 30 #[U O W, U O H, Y A n c]).alloc (ac #[U O vx, U O vy] 80)
  have bv := ak.new (w.alloc (ac #[U O W, U O H, Y A n c] 30)) 80 #[U O vx, U O vy]
  rw [BE] at bv
  have s : w.heap.size + 2 ≤ ((w.alloc (ac #[U O W, U O H, Y A n c] 30)).alloc (ac #[U O vx, U O vy] 80)).heap.size := by simp
  replace p := p.q r N
  go_enter Gz.gf func141, ntmps141
  go_wp2_with (at_make; generalize (w.alloc (ac #[U O W, U O H, Y A n c] 30)).alloc (ac #[U O vx, U O vy] 80) = d at r J bv p s ⊢; refine Wj rfl rfl 64 rfl rfl aa aa (Q.refl d) ?_; intro w1 K hq Z)
  have t : B ≤ d.heap.size := by omega
  go_loopw [9, 13] (fun v i wr => ∃ j : Nat, j ≤ 8 ∧ i = U O j ∧ Own wr d.heap.size v (j * 8) (a6 (qu W H xs x y vx vy) (j * 8)) ∧ Q d wr) (fun _ i _ => 8 - (akw i).toNat)
  case atStart => exact ⟨0, dC _, rfl, by rw [Nat.zero_mul]; exact K, hq⟩
  case round =>
    obtain ⟨j, hj, rfl, l, o⟩ := hrel
    clear K hq Z
    by_cases aT : j < 8
    · obtain ⟨L, rfl⟩ : ∃ L : ns, L = wr := ⟨_, rfl⟩
      have M : decide ((j : Int) < 8) = true := by simp; omega
      go_wp2
      go_loopw [9, 16] (fun v i wr => ∃ k : Nat, k ≤ 8 ∧ i = U O k ∧ Own wr d.heap.size v (j * 8 + k) (a6 (qu W H xs x y vx vy) (j * 8 + k)) ∧ Q d wr) (fun _ i _ => 8 - (akw i).toNat)
      case atStart => exact ⟨0, dC _, rfl, l, o⟩
      case round =>
        obtain ⟨k, lm, rfl, b, a⟩ := hrel
        clear l o
        by_cases z : k < 8
        · have C := J.oj a
          have D := bv.oj a
          have E := a.size
          go_wp2
          refine (aaF c (p.q a t) aa P R aa aa aa aa).mono ?_; rintro e w7 ⟨rfl, F⟩
          replace b := b.q F
          replace a := a.trans F
          replace E := a.size
          clear C D F
          go_wp2_with ((at_builtin; refine tX rfl rfl d d.heap.size rfl (b.alloc _) ⟨_, 0, none⟩ rfl qY qY qY (a.alloc _) (uy _ _ _ _) ?_; intro v' w' G I O' _; skip))
          go_roundw
          case rel => exact ⟨k + 1, by omega, by go_num, by have h := G; rw [← Ri W H xs x y vx vy j z, ← Pp] at h; exact h, I⟩
          case measure => simp [akw]; omega
        · go_wp2
          go_roundw
          case rel => exact ⟨j + 1, by omega, by go_num, by have e : k = 8 := by omega
                                                            subst e; rw [Nat.succ_mul]; exact b, a⟩
          case measure => simp [akw]; omega
    · go_wp2
      go_ret
      have e : j = 8 := by omega
      subst e
      exact ⟨_, rfl, l.mono aa, r.trans o⟩
def Zx (x y:Int) (c:Nat) (p : Rd w B A xs) (P : B ≤ w.heap.size) (R : Hid (xs.length = n)) (S : Hid (bS W H xs = true))
    (x1 : 0 ≤ x) (x2 : x ≤ 32) (y1 : 0 ≤ y) (y2 : y ≤ 32) (T : -16 ≤ vx) (V : vx ≤ 16) (X : -16 ≤ vy) (Z : vy ≤ 16) :
    UL Gz.prog 84 #[a5 #[U O W, U O H, Y A n c], U O x, U O y, a5 #[U O vx, U O vy]] w fun e w' => ∃ v, e = be v ∧ Own w' w.heap.size v 64 (kI W H xs x y vx vy) ∧ Q w w' := by
  have r : Q w ((w.alloc (ac #[U O W, U O H, Y A n c] 30)).alloc (ac #[U O vx, U O vy] 80)) := (by repeat (first | exact Q.refl _ | assumption | refine Q.drewN ?_ _ | refine Q.drew ?_ | refine Q.alloc ?_ _ | refine Q.trans ?_ (by assumption) | refine Q.set ?_ (by first | exact au _ | omega | (simp; done) | (simp; omega)) _))
  have K := (ak.new w 30 #[U O W, U O H, Y A n c]).alloc (ac #[U O vx, U O vy] 80)
  have bv := ak.new (w.alloc (ac #[U O W, U O H, Y A n c] 30)) 80 #[U O vx, U O vy]
  rw [BE] at bv
  have s : w.heap.size + 2 ≤ ((w.alloc (ac #[U O W, U O H, Y A n c] 30)).alloc (ac #[U O vx, U O vy] 80)).heap.size := by simp
  have L : Hid (((w.alloc (ac #[U O W, U O H, Y A n c] 30)).alloc (ac #[U O vx, U O vy] 80)).heap.size = w.heap.size + 1 + 1) := by unfold Hid; simp
  replace p := p.q r P
  go_enter Gz.gf func84, ntmps84
  have t := Own.jT ((w.alloc (ac #[U O W, U O H, Y A n c] 30)).alloc (ac #[U O vx, U O vy] 80)) ((w.alloc (ac #[U O W, U O H, Y A n c] 30)).alloc (ac #[U O vx, U O vy] 80)).heap.size (au _)
  have hq := (Q.refl ((w.alloc (ac #[U O W, U O H, Y A n c] 30)).alloc (ac #[U O vx, U O vy] 80))).alloc (ac #[] 3)
  go_wp2
  generalize (w.alloc (ac #[U O W, U O H, Y A n c] 30)).alloc (ac #[U O vx, U O vy] 80) = d at r K bv p s t hq L ⊢
  have z : B ≤ d.heap.size := by omega
  go_loopw [9, 10] (fun v i wr => ∃ j : Nat, j ≤ 8 ∧ i = U O j ∧ Own wr d.heap.size v (j * 8) (a6 (qu W H xs x y vx vy) (j * 8)) ∧ Q d wr) (fun _ i _ => 8 - (akw i).toNat)
  case atStart => exact ⟨0, dC _, rfl, by rw [Nat.zero_mul]; have h := t; rw [L.out] at h ⊢; exact h, hq⟩
  case round =>
    obtain ⟨j, hj, rfl, l, o⟩ := hrel
    clear t hq
    by_cases aT : j < 8
    · obtain ⟨M, rfl⟩ : ∃ M : ns, M = wr := ⟨_, rfl⟩
      have N : decide ((j : Int) < 8) = true := by simp; omega
      go_wp2
      go_loopw [9, 11] (fun v i wr => ∃ k : Nat, k ≤ 8 ∧ i = U O k ∧ Own wr d.heap.size v (j * 8 + k) (a6 (qu W H xs x y vx vy) (j * 8 + k)) ∧ Q d wr) (fun _ i _ => 8 - (akw i).toNat)
      case atStart => exact ⟨0, dC _, rfl, l, o⟩
      case round =>
        obtain ⟨k, lm, rfl, b, a⟩ := hrel
        clear l o
        by_cases C : k < 8
        · have D := K.oj a
          have E := bv.oj a
          have F := a.size
          go_wp2
          refine (aaG c (p.q a z) aa R S aa aa aa aa).mono ?_; rintro e w7 ⟨rfl, G⟩
          replace b := b.q G
          replace a := a.trans G
          replace F := a.size
          clear D E G
          go_wp2_with ((at_builtin; refine tX rfl rfl d d.heap.size rfl (b.alloc _) ⟨_, 0, none⟩ rfl qY qY qY (a.alloc _) (uy _ _ _ _) ?_; intro v' w' I J O' _; skip))
          go_roundw
          case rel => exact ⟨k + 1, by omega, by go_num, by have h := I; rw [← Ri W H xs x y vx vy j C, ← Pp] at h; exact h, J⟩
          case measure => simp [akw]; omega
        · go_wp2
          go_roundw
          case rel => exact ⟨j + 1, by omega, by go_num, by have e : k = 8 := by omega
                                                            subst e; rw [Nat.succ_mul]; exact b, a⟩
          case measure => simp [akw]; omega
    · go_wp2
      go_ret
      have e : j = 8 := by omega
      subst e
      exact ⟨_, rfl, l.mono aa, r.trans o⟩
end
section
open Go.RowKit
def nth(m:List Int)(i:Nat):Int:=m[i]?.getD 0
def j2(W H:Nat)(ref xs:List Int)(x y a:Nat)(m:List Int)(k:Nat):List Int:=
 if nth m 0=2 then
  lQ (nth m (3+k)).toNat (eA W H xs (x+k%2*4:Nat) (y+k/2*4:Nat) (decide (a<y+k/2*4))) (eL W H xs (x+k%2*4:Nat) (y+k/2*4:Nat) (decide (0<x+k%2*4)))
   (eC W H xs (x+k%2*4:Nat) (y+k/2*4:Nat) (decide (a<y+k/2*4)) (decide (0<x+k%2*4))) (decide (a<y+k/2*4)) (decide (0<x+k%2*4))
 else lF (kI W H ref x y (nth m 1) (nth m 2)) (k%2*4) (k/2*4)
def dT(W H:Nat)(ref:List Int)(x y a:Nat)(m:List Int)(q:Int):Nat->List Int->List Int
 |0,xs=>xs
 |k+1,xs=>ik W (x+k%2*4) (y+k/2*4) (j2 W H ref (dT W H ref x y a m q k xs) x y a m k) (gE (sub m (7+16*k) 16) q) 16 (dT W H ref x y a m q k xs)
def gT(W H:Nat)(ref:List Int)(row:Nat)(L:List Int)(q:Int):Nat->List Int->List Int
 |0,xs=>xs
 |k+1,xs=>dT W H ref (k*8) (row*8) (row*8) (sub L (71*k) 71) q 4 (gT W H ref row L q k xs)
def ic(W H:Nat)(ref:List Int)(a:Nat->List Int)(q:Int):Nat->List Int->List Int
 |0,xs=>xs
 |k+1,xs=>gT W H ref k (a k) q (W/8) (ic W H ref a q k xs)
def zI(W H:Nat)(ref:List Int)(x y a:Nat)(m:List Int)(q:Int)(xs:List Int):∀k,(dT W H ref x y a m q k xs).length=xs.length
 |0=>rfl
 |k+1=>by rw[dT,Qg,zI W H ref x y a m q xs k]
def zJ(W H:Nat)(ref:List Int)(x y a:Nat)(m:List Int)(q:Int){xs:List Int}(h:cZ xs=true):∀k,cZ (dT W H ref x y a m q k xs)=true
 |0=>h
 |k+1=>by rw[dT];exact Qh _ _ _ _ _ (zJ W H ref x y a m q h k) _
def zK(W H:Nat)(ref:List Int)(row:Nat)(L:List Int)(q:Int)(xs:List Int):∀k,(gT W H ref row L q k xs).length=xs.length
 |0=>rfl
 |k+1=>by rw[gT,zI,zK W H ref row L q xs k]
def zL(W H:Nat)(ref:List Int)(row:Nat)(L:List Int)(q:Int){xs:List Int}(h:cZ xs=true):∀k,cZ (gT W H ref row L q k xs)=true
 |0=>h
 |k+1=>by rw[gT];exact zJ _ _ _ _ _ _ _ _ (zL W H ref row L q h k) _
def zq(W H:Nat)(ref:List Int)(a:Nat->List Int)(q:Int)(xs:List Int):∀k,(ic W H ref a q k xs).length=xs.length
 |0=>rfl
 |k+1=>by rw[ic,zK,zq W H ref a q xs k]
def zr(W H:Nat)(ref:List Int)(a:Nat->List Int)(q:Int){xs:List Int}(h:cZ xs=true):∀k,cZ (ic W H ref a q k xs)=true
 |0=>h
 |k+1=>by rw[ic];exact zL _ _ _ _ _ _ (zr W H ref a q h k) _
def pL{W H:Nat}{a:List Int}(h:bS W H xs=true)(b:a.length=xs.length)(d:cZ a=true):bS W H a=true:=by obtain⟨h1,e,j,_⟩:=jH h;unfold bS dL;rw[b,decide_eq_true h1,decide_eq_true e,decide_eq_true j,d];rfl
def Np(h:∀k,k<xs.length->0<=xs[k]?.getD 0/\xs[k]?.getD 0<=255):aS xs 100000=true:=by unfold aS;rw[aiE];intro x b;obtain⟨k,a,rfl⟩:=List.mem_iff_getElem.1 b;have:=h k a;rw[aiX a] at this;exact decide_eq_true ⟨by have:=this.1;simp at this;omega,by have:=this.2;simp at this;omega⟩
def ae3{M:Int}(h:∀k,k<xs.length-> -M<=xs[k]?.getD 0/\xs[k]?.getD 0<=M):aS xs M=true:=by unfold aS;rw[aiE];intro x b;obtain⟨k,a,rfl⟩:=List.mem_iff_getElem.1 b;have:=h k a;rw[aiX a] at this;exact decide_eq_true this
def Rj{q:Int}:aS (gE xs q) 100000=true:=by
 unfold gE;split
 ·refine ae3 λk b=>?_;have a:k<16:=aG
  have hc:cT (a6 (gC xs (step q.toNat)) 16) 4080:=λi=>by
   by_cases hi:i<16
   ·rw[nY hi];exact Gd aa
   ·rw[List.getElem?_eq_none (by rw[DO];omega)];simp
  have h:=ED hc aa k;unfold jW;rw[nY a];omega
 ·decide
def ad6(h:EB f g c):0<=jZ m f g c u v x y/\jZ m f g c u v x y<=255:=by
 have e:∀d:Nat->Int,(∀k,0<=d k/\d k<=255)->∀k:Nat,0<=sm d k/\sm d k<=255*k:=λd j k=>by induction k with|zero=>simp[sm]|succ k l=>have:=j k;simp only[sm];omega
 unfold jZ;split
 ·have a:=e f h.1 4;have b:=e g h.2.1 4;cases u<;>cases v<;>simp[mb,mN,mT]<;>omega
 split
 ·exact h.1 x
 split
 ·exact h.2.1 y
 split
 ·have a:=m9 h (4+x-y-1);have b:=m9 h (4+x-y);have c:=m9 h (4+x-y+1);unfold oD;omega
 ·unfold Ba dA;omega
def GA(h:bS W H xs=true)(x y:Int):EB (eA W H xs x y u) (eL W H xs x y v) (eC W H xs x y u v):=⟨λk=>af5 h x y u k,λk=>af6 h x y v k,af7 h x y u v⟩
def ad7(h:EB f g c):aS (lQ m f g c u v) 100000=true:=Np λk b=>by have a:k<16:=aG;unfold lQ lP;rw[nY a];exact ad6 h
def acn{b:List Int}{j:Nat}(h:∀k:Nat,0<=b[k]?.getD 0/\b[k]?.getD 0<=255):aS (lF b i j) 100000=true:=Np λk d=>by have a:k<16:=aG;unfold lF mg;rw[nY a];exact h _
def Tb.aw{w':ns}{S:List Nat}(h:Tb w)(k:av S w w')(a:2∉S):Tb w':=⟨cG h.pos k.size,λq b=>(mR k h.pos a).trans (h.at_ q b)⟩
def Bl.aw{w':ns}{S:List Nat}{g:Nat}(h:Bl w g xs)(k:av S w w')(a:g∉S):Bl w' g xs:=⟨h.blk.aw k a,h.len⟩
def Qi(W H:Nat)(ref xs:List Int)(x y a:Nat)(m:List Int)(k:Nat):(j2 W H ref xs x y a m k).length=16:=by
 unfold j2;split
 ·rfl
 ·rfl
def Rk{W H:Nat}{ref:List Int}(x y a:Nat){m:List Int}(k:Nat)(b:bS W H xs=true)(hr:nth m 0≠2->bS W H ref=true):aS (j2 W H ref xs x y a m k) 100000=true:=by
 unfold j2;split
 ·exact ad7 (GA b _ _)
 ·rename_i h;exact acn (ae2 (hr h))
end
end Go.Proofs.Q0
