/- Parts of a proof. No condition. -/
import Derived.Test.YtimlcnhcjndijaaGreatDoorJ01
import Derived.Test.YtimlcnhcjndijaaGreatDoorJ03
set_option linter.all false
set_option maxRecDepth 100000
set_option maxHeartbeats 3200000
namespace Go.Proofs.YtimlcnhcjndijaaGreatDoor
open Option renaming some->O,none->I
open IntKind renaming i64->G
open Value renaming int->Z,bool->Q,string->D,tuple->E,slice->V
open Ending renaming returned->Y
open Obj renaming cells->J
open Go renaming World->WD
open Go.RowKit renaming Below->BW
open Go.Proofs.Tryz
section
open Go.RowKit Go.Maps Go.Lib
variable{l:List UInt8}{α:Type}{x:UInt8}{w w':WD}
def bu (l:List UInt8):ByteArray:=⟨l.toArray⟩
def My (l:List UInt8):(bu l).data.toList=l:=by simp[bu]
def Aa8 (s:ByteArray):bu s.data.toList=s:=rfl
def L4 (l:List UInt8):(bu l).size=l.length:=rfl
def Py {a b:ByteArray} (h:a.data.toList=b.data.toList):a=b:=by rw[<-Aa8 a,h,Aa8]
def Q0 (s:ByteArray):s.data.toList.length=s.size:=rfl
def Au (x:UInt8):List UInt8->List (List UInt8)
 | []=>[[]]
 | b :: l=>if b=x then[]::Au x l else(b :: (Au x l).headD [])::(Au x l).tail
def Apg (x:UInt8) (l:List UInt8):Au x l≠[]:=by
 cases l with
 | nil=>simp[Au]
 | cons b l=>unfold Au;split<;>simp
def Sk   (h:x∉l):Au x l=[l]:=by
 induction l with
 | nil=>rfl
 | cons b l ih=>
  have h1:¬b=x:=λe=>h (by rw[e];exact Ci ..);have a:=ih (λe=>h (B2 _ e));unfold Au;rw[Ac h1,a];rfl
def Sl  {a r:List UInt8} (h:x∉a):Au x (a++x :: r)=a :: Au x r:=by
 induction a with
 | nil=>show Au x (x :: r)=_;rw[Au,Ad rfl]
 | cons b a ih=>
  have h1:¬b=x:=λe=>h (by rw[e];exact Ci ..);have c:=ih (λe=>h (B2 _ e));show Au x (b :: (a++x :: r))=_;rw[Au,Ac h1,c];rfl
def Aa9 (x:UInt8) (l:List UInt8):x∉l\/∃a r,l=a++x :: r/\x∉a:=by
 induction l with
 | nil=>exact .inl as9
 | cons b l ih=>
  by_cases e:b=x
  .exact .inr ⟨[],l,by rw[e];rfl,as9⟩
  .rcases ih with h|⟨a,r,h1,d⟩
   .exact .inl (by simp[h];exact λc=>e c.symm)
   .exact .inr ⟨b :: a,r,by rw[h1];rfl,by simp[d];exact λc=>e c.symm⟩
def Aba   (h:x∉l):Lib.index l [x]=-1:=by
 induction l with
 | nil=>rfl
 | cons b l ih=>
  have h1:¬x=b:=λe=>h (by rw[e];exact Ci ..);have a:=ih (λe=>h (B2 _ e));unfold Lib.index;have e:[x].isPrefixOf (b :: l)=false:=by simp[List.isPrefixOf,h1]
  rw[e,a];rfl
def Afn  {a r:List UInt8} (h:x∉a):Lib.index (a++x :: r) [x]=a.length:=by
 induction a with
 | nil=>
  show Lib.index (x :: r) [x]=_;unfold Lib.index;have e:[x].isPrefixOf (x :: r)=true:=by simp[List.isPrefixOf]
  rw[e];rfl
 | cons b a ih=>
  have h1:¬x=b:=λe=>h (by rw[e];exact Ci ..);have d:=ih (λe=>h (B2 _ e));show Lib.index (b :: (a++x :: r)) [x]=_;unfold Lib.index;have e:[x].isPrefixOf (b :: (a++x :: r))=false:=by simp[List.isPrefixOf,h1]
  rw[e,d];have c:((a.length:Int) == -1)=false:=by simp only[Br];omega
  simp[c]
def Aph   (h:x∉l):Lib.cut l [x]=(l,[],false):=by
 unfold Lib.cut;rw[Aba h];rfl
def Api  {a r:List UInt8} (h:x∉a):Lib.cut (a++x :: r) [x]=(a,r,true):=by
 unfold Lib.cut;rw[Afn h,Ad ao9];simp
def Apj (x:UInt8):∀(n:Nat) (s:ByteArray),s.size<=n->Lib.splitB (bu [x]) 0 (Lib.countB s (bu [x])) s=(Au x s.data.toList).map bu/\Lib.countB s (bu [x])+1=(Au x s.data.toList).length:=by
 intro n
 induction n with
 | zero=>
  intro s k;have h0:s.data.toList=[]:=Ib.1 (by rw[Q0];omega);have b:Lib.indexB s (bu [x])=-1:=by show Lib.index s.data.toList [x]=-1;exact Aba (by rw[h0];simp)
  rw[Lib.countB_miss s _ b,Lib.splitB_zero,h0];exact⟨by rw[<-Aa8 s,h0];rfl,rfl⟩
 | succ n ih=>
  intro s k;rcases Aa9 x s.data.toList with h|⟨a,r,h1,c⟩
  .have b:Lib.indexB s (bu [x])=-1:=(by show Lib.index s.data.toList [x]=-1;exact Aba h);rw[Lib.countB_miss s _ b,Lib.splitB_zero,Sk h];exact⟨rfl,rfl⟩
  .have b:Lib.indexB s (bu [x])=(a.length:Nat):=by show Lib.index s.data.toList [x]=_;rw[h1];exact Afn c
   have e:s.extract (a.length+(bu [x]).size) s.size=bu r:=Py (by
    rw[Lib.extract_to_end,My,h1,L4];show List.drop (a.length+1) (a++x :: r)=r
    rw[List.drop_append];simp)
   have i:s.extract 0 (a.length+0)=bu a:=Py (by rw[Lib.extract_from_zero,My,h1];simp)
   have j:(bu r).size<=n:=by
    have:s.data.toList.length=a.length+(r.length+1):=by rw[h1];simp
    rw[Q0]at this;rw[L4];omega
   obtain⟨f,g⟩:=ih (bu r) j;rw[My]at f g;have d:=Lib.countB_hit s (bu [x]) a.length Ln b;rw[e]at d;rw[d,Nat.add_comm 1,Lib.splitB_hit _ _ _ _ _ b,e,i,f,h1,Sl c];exact⟨rfl,by simp[<-g]⟩
def Mx (w:WD):Prop:=∃m,w.cell? ⟨0,0,I⟩=O (Z G m)
def Mx.pos  (h:Mx w):0<w.heap.size:=by
 obtain⟨m,h⟩:=h;simp only[World.cell?]at h
 cases hx:w.heap[0]? with
 | none=>simp[hx]at h
 | some o=>exact(R4.1 hx).1
def Mx.below  {B:Nat} (h:Mx w) (b:BW B w w') (a:0<B):Mx w':=by
 obtain⟨m,h⟩:=h;exact⟨m,(Af b a).trans h⟩
def Mx.low  (h:Mx w) (a:BW w.heap.size w w'):Mx w':=h.below a h.pos
def Afo (s:ByteArray) (x:UInt8) (w:WD) (h:Mx w) (g:s.size<4294967281) :
  Calls prog 76 #[D s,D (bu [x])] w λe w'=>(∃a r b,e=Y (E #[D (bu a),D (bu r),Q b])/\((b=false/\a=s.data.toList/\r=[]/\x∉a)\/(b=true/\s.data.toList=a++x :: r/\x∉a)))/\∃n,w'=w.drewN n:=by
 obtain⟨m,f⟩:=h;refine(Tryz.strings_Cut s (bu [x]) m w g f).mono λe w' ⟨he,hn⟩=>?_;refine⟨?_,hn⟩;rw[My]at he;rcases Aa9 x s.data.toList with d|⟨a,r,h1,c⟩
 .rw [Aph d]at he;exact⟨s.data.toList,[],false,he,.inl ⟨rfl,rfl,rfl,d⟩⟩
 .rw [h1,Api c]at he;exact⟨a,r,true,he,.inr ⟨rfl,h1,c⟩⟩
def Apk (s:ByteArray) (x:UInt8) (w:WD) (h:Mx w) (b:s.size<4294967281) :
  Calls prog 77 #[D s,D (bu [x])] w λe w'=>e=Y (V (O ⟨w.heap.size,0,I⟩) (Au x s.data.toList).length (Au x s.data.toList).length)/\w'=w.alloc (J (((Au x s.data.toList).map bu).map Value.string).toArray 9):=by
 obtain⟨m,a⟩:=h;refine(Tryz.strings_Split s (bu [x]) m w b a Ln).mono λe w' ⟨he,hn⟩=>?_;obtain⟨c,d⟩:=Apj x s.size s Ln;rw[d]at he;rw[c]at hn;exact⟨he,hn⟩
def E4 (ps:List (List UInt8)) (j:Nat):Int:=Cd (bu (ps.getD j [])) 10
def Pz (ps:List (List UInt8)):V4:=⟨E4 ps 0,E4 ps 1,E4 ps 2,E4 ps 3⟩
def Fo (s:ByteArray):V4×Int:=if (Au 44 s.data.toList).length=4 then(Pz (Au 44 s.data.toList)).told 11 else(V4.zero,11)
def Abb {s:ByteArray} (h:(Au 44 s.data.toList).length≠4):Fo s=(V4.zero,11):=Ac h
def Afp  (a:List α) (x:α) (b:List α) (d:α) (k:Nat) (c:a.length=k):(a++x :: b).getD k d=x:=by
 subst c;simp[List.getD]
def Afq  (a b:List α) (d:α) {j:Nat} (c:j<a.length):(a++b).getD j d=a.getD j d:=by
 simp[List.getD,Fb c]
structure xj (w:WD) (s0:ByteArray) (k:Nat) (done:List (List UInt8)) (rest:List UInt8) (f:Nat->Int) (wr:WD):Prop where
 low:BW w.heap.size w wr
 mx:Mx wr
 res:wr.heap[w.heap.size]?=O (J V4.zero.cells 30 (0,0))
 arr:wr.heap[w.heap.size+1]?=O (J #[Z G (f 0),Z G (f 1),Z G (f 2),Z G (f 3)] 30 (0,0))
 val:∀j,j<k->f j=E4 done j
 len:done.length=k
 cut:if k<4 then Au 44 s0.data.toList=done++Au 44 rest else Au 44 s0.data.toList=done
 xd:rest.length<=s0.size
def Abc (x:UInt8) (l:List UInt8):1<=(Au x l).length:=by
 cases h:Au x l with
 | nil=>exact absurd h (Apg _ _)
 | cons p ps=>simp
def A4 (B:Nat) (w:WD) (n:Nat):BW B w (w.drewN n):=⟨rfl,rfl,rfl,Nat.le_refl _,λ_ _=>rfl⟩
def Afr  {n:Nat} (h:BW (w.drewN n).heap.size (w.drewN n) w'):BW w.heap.size w w':=(A4 _ _ _).trans h
def Apl (z:ByteArray) (w:WD) (hm:Mx w) (hs:z.size<=4294967280):Calls prog 79 #[D z] w λe w'=>e=Y (E #[(Fo z).1.val,Z G (Fo z).2])/\BW w.heap.size w w':=by
 have av:=Hh hm.pos
 have h0:xj w z 0 [] z.data.toList (λ_=>0) ((w.alloc (J V4.zero.cells 30 (0,0))).alloc (J V4.zero.cells 30 (0,0))):=
  ⟨Bn.alloc as9 _,hm.low (Bn.alloc as9 _),Aj _ (Ah _ _),A6 _ _ as9,λj hj=>absurd hj (Nu _),rfl,as9,Nat.le_refl _⟩
 replace⟨h0,hm⟩:=H2 h0 hm;go_enter func79,ntmps79;go_wp2;go_loopw [0,5,6,7,8,9] (λsv _ _ _ _ i wr=>∃(k:Nat) (l:List (List UInt8)) (rest:List UInt8) (f:Nat->Int),k<=4/\i=Z G k/\sv=D (bu rest)/\Hid (xj w z k l rest f wr)) (λ_ _ _ _ _ i _=>4-(intOf i).toNat)
 case atStart=>exact⟨0,[],z.data.toList,λ_=>0,ao9,rfl,rfl,h0.out⟩
 case round=>
  obtain⟨k,l,rest,f,hk,rfl,rfl,n⟩:=hrel;by_cases h4:k<4
  .have hi:(k:Int)<4:=ao9;have aB:=Afo (bu rest) 44 wr n.mx (by rw[L4];have:=n.xd;omega);rw[My]at aB;have q:=n.cut;rw[Ad h4]at q;replace⟨aB,q⟩:=H2 aB q;go_wp2_with fail;refine aB.mono ?_;rintro e w1 ⟨⟨a,r,b,rfl,aD⟩,nd,rfl⟩
   have d:a.length<=z.size/\r.length<=z.size:=by
    have:=n.xd;rcases aD with⟨_,y,e2,_⟩|⟨_,y,_⟩
    .rw [y,e2];exact⟨this,as9⟩
    .have e:=Cv List.length y;simp at e;omega
   by_cases h3:k<3
   .have d3:decide ((k:Int)<3)=true:=Az ao9;have aI:=Az h3;rcases aD with⟨rfl,y,e2,e3⟩|⟨rfl,y,e3⟩
    .have s:(Au 44 z.data.toList).length≠4:=(by rw[q.out,<-y,Sk e3];simp[n.len];omega);replace⟨s,y,e2,e3,d⟩:=H5 s y e2 e3 d;have hz:=Abb s.out;have cx:=Aa n.res;have fx:=Ag n.res;have t:=n.low;replace⟨hz,t⟩:=H2 hz t;go_wp2;refine Al (v:=E #[V4.zero.val,Z G 11]) (by simp[results,results79,go_sem,cx,V4.zero]) rfl ⟨by rw[hz.out],?_⟩;exact(((((t.trans (A4 _ _ _)).setCell Ln _).setCell Ln _).setCell Ln _).setCell Ln _)
    .have hcut:if k+1<4 then Au 44 z.data.toList=(l++[a])++Au 44 r else Au 44 z.data.toList=l++[a]:=(by rw[Ad ao9,q.out,y,Sl e3];simp);have am:=d.2;have ac:=d.1;replace⟨hcut,y,e3,d,am⟩:=H5 hcut y e3 d am;clear d;have d:=ac;replace d:=Hh d;clear ac;have an:=Afm (bu a) (wr.drewN nd) (by rw[L4];have:=d.out;have:maxLen=9223372036854775807:=rfl;omega);replace an:=Hh an;go_wp2_with fail;refine an.mono ?_;rintro e w2 ⟨rfl,p⟩;have o:=Afr p;have g:=Ae o n.arr (Ab n.arr);have g2:=Ae o n.res (Ab n.res);have cc:=Aa g;have ff:=Ag g;have c:=n.low.trans (o.mono n.low.size);have x:=n.mx.low o
     obtain⟨f',aE,aF⟩:∃f':Nat->Int,Hid (∀j,j<k+1->f' j=E4 (l++[a]) j)/\Hid (∀j,f' j=if j=k then Cd (bu a) 10 else f j):=by
      refine⟨λj=>if j=k then Cd (bu a) 10 else f j,λj hj=>?_,λ_=>rfl⟩;show(if j=k then Cd (bu a) 10 else f j)=E4 (l++[a]) j;split
      .next h=>rw[h];unfold E4;rw[Afp _ _ _ _ _ n.len]
      .rw [n.val j ao9];unfold E4;rw[Afq _ _ _ (by rw[n.len];omega)]
     replace⟨p,o,g,g2,c,x⟩:=H6 p o g g2 c x;obtain⟨W3,al⟩:=Ex (w2.setCell ⟨w.heap.size+1,k,I⟩ (Z G (Cd (bu a) 10)))
     have ad:xj w z (k+1) (l++[a]) r f' W3:=by
      rw[al];refine⟨c.setCell as9 _,?_,Dn ao9 _ g2.out,?_,aE.out,by simp[n.len],hcut.out,am.out⟩
      .obtain ⟨m,hm⟩:=x.out;exact⟨m,(By (a:=⟨0,0,I⟩) (w:=w2) (C1 _ _ _ _ (by have:=av.out;show(0:Nat)≠w.heap.size+1;omega))).trans hm⟩
      .rw [Ap g.out]
       rcases ur h4 with rfl|rfl|rfl|rfl<;>simp[aF.out]
     replace ad:=Hh ad;have ao:=Hh al;clear al;rcases(show k=0\/k=1\/k=2 by omega)with rfl|rfl|rfl
     all_goals
      go_wp2
      try rw[<-ao.out]
      go_roundw
      case rel=>exact⟨_,_,_,f',ao9,by go_num,rfl,ad.out⟩
      case measure=>simp[intOf]
   .have ap:k=3:=ao9;have d3:decide ((k:Int)<3)=false:=A2 ao9;have aI:=A2 h3;rcases aD with⟨rfl,y,e2,e3⟩|⟨rfl,y,e3⟩
    .have hcut:if k+1<4 then Au 44 z.data.toList=(l++[a])++Au 44 r else Au 44 z.data.toList=l++[a]:=(by rw[Ac ao9,q.out,<-y,Sk e3]);have am:=d.2;have ac:=d.1;replace⟨hcut,y,e2,e3,d,am,ap⟩:=H7 hcut y e2 e3 d am ap;clear d;have d:=ac;replace d:=Hh d;clear ac;have an:=Afm (bu a) (wr.drewN nd) (by rw[L4];have:=d.out;have:maxLen=9223372036854775807:=rfl;omega);replace an:=Hh an;go_wp2_with fail;refine an.mono ?_;rintro e w2 ⟨rfl,p⟩;have o:=Afr p;have g:=Ae o n.arr (Ab n.arr);have g2:=Ae o n.res (Ab n.res);have cc:=Aa g;have ff:=Ag g;have c:=n.low.trans (o.mono n.low.size);have x:=n.mx.low o
     obtain⟨f',aE,aF⟩:∃f':Nat->Int,Hid (∀j,j<k+1->f' j=E4 (l++[a]) j)/\Hid (∀j,f' j=if j=k then Cd (bu a) 10 else f j):=by
      refine⟨λj=>if j=k then Cd (bu a) 10 else f j,λj hj=>?_,λ_=>rfl⟩;show(if j=k then Cd (bu a) 10 else f j)=E4 (l++[a]) j;split
      .next h=>rw[h];unfold E4;rw[Afp _ _ _ _ _ n.len]
      .rw [n.val j ao9];unfold E4;rw[Afq _ _ _ (by rw[n.len];omega)]
     replace⟨p,o,g,g2,c,x⟩:=H6 p o g g2 c x;obtain⟨W3,al⟩:=Ex (w2.setCell ⟨w.heap.size+1,k,I⟩ (Z G (Cd (bu a) 10)))
     have ad:xj w z (k+1) (l++[a]) r f' W3:=by
      rw[al];refine⟨c.setCell as9 _,?_,Dn ao9 _ g2.out,?_,aE.out,by simp[n.len],hcut.out,am.out⟩
      .obtain ⟨m,hm⟩:=x.out;exact⟨m,(By (a:=⟨0,0,I⟩) (w:=w2) (C1 _ _ _ _ (by have:=av.out;show(0:Nat)≠w.heap.size+1;omega))).trans hm⟩
      .rw [Ap g.out]
       rcases ur h4 with rfl|rfl|rfl|rfl<;>simp[aF.out]
     replace ad:=Hh ad;have ao:=Hh al;clear al;have aH:=ap.out;subst aH
     all_goals
      go_wp2
      try rw[<-ao.out]
      go_roundw
      case rel=>exact⟨_,_,_,f',ao9,by go_num,rfl,ad.out⟩
      case measure=>simp[intOf]
    .have s:(Au 44 z.data.toList).length≠4:=(by rw[q.out,y,Sl e3];have:=Abc 44 r;simp[n.len];omega);replace⟨s,y,e3,d,ap⟩:=H5 s y e3 d ap;have hz:=Abb s.out;have cx:=Aa n.res;have fx:=Ag n.res;have t:=n.low;replace⟨hz,t⟩:=H2 hz t;go_wp2;refine Al (v:=E #[V4.zero.val,Z G 11]) (by simp[results,results79,go_sem,cx,V4.zero]) rfl ⟨by rw[hz.out],?_⟩;exact(((((t.trans (A4 _ _ _)).setCell Ln _).setCell Ln _).setCell Ln _).setCell Ln _)
  .have hi:¬(k:Int)<4:=ao9;have k4:k=4:=ao9;subst k4;have q:=n.cut;rw[Ac ao9]at q;have aC:Fo z=(Pz l).told 11:=(by unfold Fo;rw[q,Ad n.len]);have hv:=n.val;have e0:=hv 0 ao9;have y:=hv 1 ao9;have e2:=hv 2 ao9;have e3:=hv 3 ao9;have cc:=Aa n.arr;obtain⟨v,hv⟩:∃v:V4,v=Pz l:=⟨_,rfl⟩;have hc:(#[Z G (f 0),Z G (f 1),Z G (f 2),Z G (f 3)]:Array Value)=v.cells:=(by rw[hv,e0,y,e2,e3];rfl);rw[hc]at cc;have aG:=Aa7 v 11 wr;clear e0 y e2 e3 hc;rw[<-hv]at aC;replace⟨q,aC,hv,aG⟩:=H4 q aC hv aG;go_wp2_with fail;refine aG.mono ?_;rintro e w2 ⟨rfl,p⟩;have c:=n.low.trans (p.mono n.low.size);have g2:=Ae p n.res (Ab n.res);clear cc;have cx:=Aa g2;have fx:=Ag g2;obtain⟨u,hu⟩:∃u:V4,u=(v.told 11).1:=⟨_,rfl⟩;obtain⟨r,hr⟩:∃r:Int,r=(v.told 11).2:=⟨_,rfl⟩;rw[<-hu,<-hr];have aA:Fo z=(u,r):=(by rw[aC.out,hu,hr]);replace⟨p,c,g2,hu,hr,aA⟩:=H6 p c g2 hu hr aA;go_wp2;refine Al (v:=E #[u.val,Z G r]) (by simp[results,results79,go_sem,cx]) rfl ⟨by rw[aA.out],?_⟩;exact((((c.setCell Ln _).setCell Ln _).setCell Ln _).setCell Ln _)
