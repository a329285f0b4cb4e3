/- Parts of a proof. No condition. -/
import Derived.Test.YtimlcnhcjndijaaGreatDoorF01
import Derived.Test.YtimlcnhcjndijaaGreatDoorF03
set_option linter.all false
set_option maxRecDepth 100000
set_option maxHeartbeats 3200000
namespace Go.Proofs.YtimlcnhcjndijaaGreatDoor
open Go renaming World->WD
open Go.RowKit renaming Below->BW
open Go.Proofs.Tryz
section
open Go.RowKit Go.Maps Go.Lib
variable{l:List UInt8}{α:Type}{x:UInt8}{w w':WD}
def bp (l:List UInt8):ByteArray:=⟨l.toArray⟩
def L1 (l:List UInt8):(bp l).data.toList=l:=by simp [bp]
def Ze (s:ByteArray):bp s.data.toList=s:=rfl
def K2 (l:List UInt8):(bp l).size=l.length:=rfl
def O4 {a b:ByteArray} (h:a.data.toList=b.data.toList):a=b:=by rw [<- Ze a,h,Ze]
def P5 (s:ByteArray):s.data.toList.length=s.size:=rfl
def Ap (x:UInt8):List UInt8->List (List UInt8)
 | []=>[[]]
 | b :: l=>if b=x then [] :: Ap x l else (b :: (Ap x l).headD []) :: (Ap x l).tail
def Alx (x:UInt8) (l:List UInt8):Ap x l≠[]:=by
 cases l with
 | nil=>simp [Ap]
 | cons b l=>unfold Ap;split<;>simp
def Rq   (h:x∉l):Ap x l=[l]:=by
 induction l with
 | nil=>rfl
 | cons b l ih=>
  have h1:¬ b=x:=fun e=>h (by rw [e];exact Dl ..);have a:=ih (fun e=>h (Ce _ e));unfold Ap;rw [Ac h1,a];rfl
def Rr  {a r:List UInt8} (h:x∉a):Ap x (a++x :: r)=a :: Ap x r:=by
 induction a with
 | nil=>show Ap x (x :: r)=_;rw [Ap,Ad rfl]
 | cons b a ih=>
  have h1:¬ b=x:=fun e=>h (by rw [e];exact Dl ..);have c:=ih (fun e=>h (Ce _ e));show Ap x (b :: (a++x :: r))=_;rw [Ap,Ac h1,c];rfl
def Zf (x:UInt8) (l:List UInt8):x∉l\/∃ a r,l=a++x :: r/\x∉a:=by
 induction l with
 | nil=>exact .inl (by simp)
 | cons b l ih=>
  by_cases e:b=x
  .exact .inr ⟨[],l,by rw [e];rfl,by simp⟩
  .rcases ih with h | ⟨a,r,h1,d⟩
   .exact .inl (by simp [h];exact fun c=>e c.symm)
   .exact .inr ⟨b :: a,r,by rw [h1];rfl,by simp [d];exact fun c=>e c.symm⟩
def Zg   (h:x∉l):Lib.index l [x]=-1:=by
 induction l with
 | nil=>rfl
 | cons b l ih=>
  have h1:¬ x=b:=fun e=>h (by rw [e];exact Dl ..);have a:=ih (fun e=>h (Ce _ e));unfold Lib.index;have e:[x].isPrefixOf (b :: l)=false:=by simp [List.isPrefixOf,h1]
  rw [e,a];rfl
def Ada  {a r:List UInt8} (h:x∉a):Lib.index (a++x :: r) [x]=a.length:=by
 induction a with
 | nil=>
  show Lib.index (x :: r) [x]=_;unfold Lib.index;have e:[x].isPrefixOf (x :: r)=true:=by simp [List.isPrefixOf]
  rw [e];rfl
 | cons b a ih=>
  have h1:¬ x=b:=fun e=>h (by rw [e];exact Dl ..);have d:=ih (fun e=>h (Ce _ e));show Lib.index (b :: (a++x :: r)) [x]=_;unfold Lib.index;have e:[x].isPrefixOf (b :: (a++x :: r))=false:=by simp [List.isPrefixOf,h1]
  rw [e,d];have c:((a.length:Int) == -1)=false:=by simp only [Bl];omega
  simp [c]
def Aly   (h:x∉l):Lib.cut l [x]=(l,[],false):=by
 unfold Lib.cut;rw [Zg h];rfl
def Alz  {a r:List UInt8} (h:x∉a):Lib.cut (a++x :: r) [x]=(a,r,true):=by
 unfold Lib.cut;rw [Ada h,Ad (by omega)];simp
def Al0 (x:UInt8):∀ (n:Nat) (s:ByteArray),s.size<=n->Lib.splitB (bp [x]) 0 (Lib.countB s (bp [x])) s=(Ap x s.data.toList).map bp/\Lib.countB s (bp [x])+1=(Ap x s.data.toList).length:=by
 intro n
 induction n with
 | zero=>
  intro s k;have h0:s.data.toList=[]:=Gd.1 (by rw [P5];omega);have b:Lib.indexB s (bp [x])=-1:=by show Lib.index s.data.toList [x]=-1;exact Zg (by rw [h0];simp)
  rw [Lib.countB_miss s _ b,Lib.splitB_zero,h0];exact ⟨by rw [<- Ze s,h0];rfl,rfl⟩
 | succ n ih=>
  intro s k;rcases Zf x s.data.toList with h | ⟨a,r,h1,c⟩
  .have b:Lib.indexB s (bp [x])=-1:=(by show Lib.index s.data.toList [x]=-1;exact Zg h);rw [Lib.countB_miss s _ b,Lib.splitB_zero,Rq h];exact ⟨rfl,rfl⟩
  .have b:Lib.indexB s (bp [x])=(a.length:Nat):=by show Lib.index s.data.toList [x]=_;rw [h1];exact Ada c
   have e:s.extract (a.length+(bp [x]).size) s.size=bp r:=O4 (by
    rw [Lib.extract_to_end,L1,h1,K2];show List.drop (a.length+1) (a++x :: r)=r
    rw [List.drop_append];simp)
   have i:s.extract 0 (a.length+0)=bp a:=O4 (by rw [Lib.extract_from_zero,L1,h1];simp)
   have j:(bp r).size<=n:=by
    have:s.data.toList.length=a.length+(r.length+1):=by rw [h1];simp
    rw [P5] at this;rw [K2];omega
   obtain ⟨f,g⟩:=ih (bp r) j;rw [L1] at f g;have d:=Lib.countB_hit s (bp [x]) a.length Ln b;rw [e] at d;rw [d,Nat.add_comm 1,Lib.splitB_hit _ _ _ _ _ b,e,i,f,h1,Rr c];exact ⟨rfl,by simp [<- g]⟩
def Mx (w:WD):Prop:=∃ m,w.cell? ⟨0,0,none⟩=some (.int .i64 m)
def Mx.pos  (h:Mx w):0<w.heap.size:=by
 obtain ⟨m,h⟩:=h;simp only [World.cell?] at h
 cases hx:w.heap[0]? with
 | none=>simp [hx] at h
 | some o=>exact (Q7.1 hx).1
def Mx.below  {B:Nat} (h:Mx w) (b:BW B w w') (a:0<B):Mx w':=by
 obtain ⟨m,h⟩:=h;exact ⟨m,(Ag b a).trans h⟩
def Mx.low  (h:Mx w) (a:BW w.heap.size w w'):Mx w':=h.below a h.pos
def Adb (s:ByteArray) (x:UInt8) (w:WD) (h:Mx w) (g:s.size<4294967281) :
  Calls prog 76 #[.string s,.string (bp [x])] w fun e w'=>(∃ a r b,e=.returned (.tuple #[.string (bp a),.string (bp r),.bool b])/\((b=false/\a=s.data.toList/\r=[]/\x∉a)\/(b=true/\s.data.toList=a++x :: r/\x∉a)))/\∃ n,w'=w.drewN n:=by
 obtain ⟨m,f⟩:=h;refine (Tryz.strings_Cut s (bp [x]) m w g f).mono fun e w' ⟨he,hn⟩=>?_;refine ⟨?_,hn⟩;rw [L1] at he;rcases Zf x s.data.toList with d | ⟨a,r,h1,c⟩
 .rw [Aly d] at he;exact ⟨s.data.toList,[],false,he,.inl ⟨rfl,rfl,rfl,d⟩⟩
 .rw [h1,Alz c] at he;exact ⟨a,r,true,he,.inr ⟨rfl,h1,c⟩⟩
def Al1 (s:ByteArray) (x:UInt8) (w:WD) (h:Mx w) (b:s.size<4294967281) :
  Calls prog 77 #[.string s,.string (bp [x])] w fun e w'=>e=.returned (.slice (some ⟨w.heap.size,0,none⟩) (Ap x s.data.toList).length (Ap x s.data.toList).length)/\w'=w.alloc (.cells (((Ap x s.data.toList).map bp).map Value.string).toArray 9):=by
 obtain ⟨m,a⟩:=h;refine (Tryz.strings_Split s (bp [x]) m w b a Ln).mono fun e w' ⟨he,hn⟩=>?_;obtain ⟨c,d⟩:=Al0 x s.size s Ln;rw [d] at he;rw [c] at hn;exact ⟨he,hn⟩
def Ei (ps:List (List UInt8)) (j:Nat):Int:=B2 (bp (ps.getD j [])) 10
def O5 (ps:List (List UInt8)):V4:=⟨Ei ps 0,Ei ps 1,Ei ps 2,Ei ps 3⟩
def Ez (s:ByteArray):V4×Int:=if (Ap 44 s.data.toList).length=4 then (O5 (Ap 44 s.data.toList)).told 11 else (V4.zero,11)
def Zh {s:ByteArray} (h:(Ap 44 s.data.toList).length≠4):Ez s=(V4.zero,11):=Ac h
def Adc  (a:List α) (x:α) (b:List α) (d:α) (k:Nat) (c:a.length=k):(a++x :: b).getD k d=x:=by
 subst c;simp [List.getD]
def Add  (a b:List α) (d:α) {j:Nat} (c:j<a.length):(a++b).getD j d=a.getD j d:=by
 simp [List.getD,E5 c]
structure vh (w:WD) (s0:ByteArray) (k:Nat) (done:List (List UInt8)) (rest:List UInt8) (f:Nat->Int) (wr:WD):Prop where
 low:BW w.heap.size w wr
 mx:Mx wr
 res:wr.heap[w.heap.size]?=some (.cells V4.zero.cells 30 (0,0))
 arr:wr.heap[w.heap.size+1]?=some (.cells #[.int .i64 (f 0),.int .i64 (f 1),.int .i64 (f 2),.int .i64 (f 3)] 30 (0,0))
 val:∀ j,j<k->f j=Ei done j
 len:done.length=k
 cut:if k<4 then Ap 44 s0.data.toList=done++Ap 44 rest else Ap 44 s0.data.toList=done
 uz:rest.length<=s0.size
def Zi (x:UInt8) (l:List UInt8):1<=(Ap x l).length:=by
 cases h:Ap x l with
 | nil=>exact absurd h (Alx _ _)
 | cons p ps=>simp
def A9 (B:Nat) (w:WD) (n:Nat):BW B w (w.drewN n):=⟨rfl,rfl,rfl,Nat.le_refl _,fun _ _=>rfl⟩
def Ade  {n:Nat} (h:BW (w.drewN n).heap.size (w.drewN n) w'):BW w.heap.size w w':=(A9 _ _ _).trans h
def Al2 (z:ByteArray) (w:WD) (hm:Mx w) (hs:z.size<=4294967280):Calls prog 79 #[.string z] w fun e w'=>e=.returned (.tuple #[(Ez z).1.val,.int .i64 (Ez z).2])/\BW w.heap.size w w':=by
 have av:=Hh hm.pos
 have h0:vh w z 0 [] z.data.toList (fun _=>0) ((w.alloc (.cells V4.zero.cells 30 (0,0))).alloc (.cells V4.zero.cells 30 (0,0))):=
  ⟨Bn.alloc (by simp) _,hm.low (Bn.alloc (by simp) _),Aj _ (Ah _ _),A3 _ _ (by simp),fun j hj=>absurd hj (Mt _),rfl,by simp,Nat.le_refl _⟩
 replace ⟨h0,hm⟩:=H2 h0 hm;go_enter func79,ntmps79;go_wp2;go_loopw [0,5,6,7,8,9] (fun sv _ _ _ _ i wr=>∃ (k:Nat) (l:List (List UInt8)) (rest:List UInt8) (f:Nat->Int),k<=4/\i=.int .i64 k/\sv=.string (bp rest)/\Hid (vh w z k l rest f wr)) (fun _ _ _ _ _ i _=>4-(intOf i).toNat)
 case atStart=>exact ⟨0,[],z.data.toList,fun _=>0,by omega,rfl,rfl,h0.out⟩
 case round=>
  obtain ⟨k,l,rest,f,hk,rfl,rfl,n⟩:=hrel;by_cases h4:k<4
  .have hi:(k:Int)<4:=(by omega);have aB:=Adb (bp rest) 44 wr n.mx (by rw [K2];have:=n.uz;omega);rw [L1] at aB;have q:=n.cut;rw [Ad h4] at q;replace ⟨aB,q⟩:=H2 aB q;go_wp2_with fail;refine aB.mono ?_;rintro e w1 ⟨⟨a,r,b,rfl,aD⟩,nd,rfl⟩
   have d:a.length<=z.size/\r.length<=z.size:=by
    have:=n.uz;rcases aD with ⟨_,y,e2,_⟩ | ⟨_,y,_⟩
    .rw [y,e2];exact ⟨this,by simp⟩
    .have e:=Ca List.length y;simp at e;omega
   by_cases h3:k<3
   .have d3:decide ((k:Int)<3)=true:=Av (by omega);have aI:=Av h3;rcases aD with ⟨rfl,y,e2,e3⟩ | ⟨rfl,y,e3⟩
    .have s:(Ap 44 z.data.toList).length≠4:=(by rw [q.out,<- y,Rq e3];simp [n.len];omega);replace ⟨s,y,e2,e3,d⟩:=H5 s y e2 e3 d;have hz:=Zh s.out;have cx:=Aa n.res;have fx:=Af n.res;have t:=n.low;replace ⟨hz,t⟩:=H2 hz t;go_wp2;refine Ak (v:=.tuple #[V4.zero.val,.int .i64 11]) (by simp [results,results79,go_sem,cx,V4.zero]) rfl ⟨by rw [hz.out],?_⟩;exact (((((t.trans (A9 _ _ _)).setCell Ln _).setCell Ln _).setCell Ln _).setCell Ln _)
    .have hcut:if k+1<4 then Ap 44 z.data.toList=(l++[a])++Ap 44 r else Ap 44 z.data.toList=l++[a]:=(by rw [Ad (by omega),q.out,y,Rr e3];simp);have am:=d.2;have ac:=d.1;replace ⟨hcut,y,e3,d,am⟩:=H5 hcut y e3 d am;clear d;have d:=ac;replace d:=Hh d;clear ac;have an:=Ac9 (bp a) (wr.drewN nd) (by rw [K2];have:=d.out;have:maxLen=9223372036854775807:=rfl;omega);replace an:=Hh an;go_wp2_with fail;refine an.mono ?_;rintro e w2 ⟨rfl,p⟩;have o:=Ade p;have g:=Ae o n.arr (Ab n.arr);have g2:=Ae o n.res (Ab n.res);have cc:=Aa g;have ff:=Af g;have c:=n.low.trans (o.mono n.low.size);have x:=n.mx.low o
     obtain ⟨f',aE,aF⟩:∃ f':Nat->Int,Hid (∀ j,j<k+1->f' j=Ei (l++[a]) j)/\Hid (∀ j,f' j=if j=k then B2 (bp a) 10 else f j):=by
      refine ⟨fun j=>if j=k then B2 (bp a) 10 else f j,fun j hj=>?_,fun _=>rfl⟩;show (if j=k then B2 (bp a) 10 else f j)=Ei (l++[a]) j;split
      .next h=>rw [h];unfold Ei;rw [Adc _ _ _ _ _ n.len]
      .rw [n.val j (by omega)];unfold Ei;rw [Add _ _ _ (by rw [n.len];omega)]
     replace ⟨p,o,g,g2,c,x⟩:=H6 p o g g2 c x;obtain ⟨W3,al⟩:=Ex (w2.setCell ⟨w.heap.size+1,k,none⟩ (.int .i64 (B2 (bp a) 10)))
     have ad:vh w z (k+1) (l++[a]) r f' W3:=by
      rw [al];refine ⟨c.setCell (by simp) _,?_,C0 (by omega) _ g2.out,?_,aE.out,by simp [n.len],hcut.out,am.out⟩
      .obtain ⟨m,hm⟩:=x.out;exact ⟨m,(Bp (a:=⟨0,0,none⟩) (w:=w2) (Cm _ _ _ _ (by have:=av.out;show (0:Nat)≠w.heap.size+1;omega))).trans hm⟩
      .rw [Am g.out]
       rcases te h4 with rfl | rfl | rfl | rfl<;>simp [aF.out]
     replace ad:=Hh ad;have ao:=Hh al;clear al;rcases (show k=0\/k=1\/k=2 by omega) with rfl | rfl | rfl
     all_goals
      go_wp2
      try rw [<- ao.out]
      go_roundw
      case rel=>exact ⟨_,_,_,f',by omega,by go_num,rfl,ad.out⟩
      case measure=>simp [intOf]
   .have ap:k=3:=(by omega);have d3:decide ((k:Int)<3)=false:=Ax (by omega);have aI:=Ax h3;rcases aD with ⟨rfl,y,e2,e3⟩ | ⟨rfl,y,e3⟩
    .have hcut:if k+1<4 then Ap 44 z.data.toList=(l++[a])++Ap 44 r else Ap 44 z.data.toList=l++[a]:=(by rw [Ac (by omega),q.out,<- y,Rq e3]);have am:=d.2;have ac:=d.1;replace ⟨hcut,y,e2,e3,d,am,ap⟩:=H7 hcut y e2 e3 d am ap;clear d;have d:=ac;replace d:=Hh d;clear ac;have an:=Ac9 (bp a) (wr.drewN nd) (by rw [K2];have:=d.out;have:maxLen=9223372036854775807:=rfl;omega);replace an:=Hh an;go_wp2_with fail;refine an.mono ?_;rintro e w2 ⟨rfl,p⟩;have o:=Ade p;have g:=Ae o n.arr (Ab n.arr);have g2:=Ae o n.res (Ab n.res);have cc:=Aa g;have ff:=Af g;have c:=n.low.trans (o.mono n.low.size);have x:=n.mx.low o
     obtain ⟨f',aE,aF⟩:∃ f':Nat->Int,Hid (∀ j,j<k+1->f' j=Ei (l++[a]) j)/\Hid (∀ j,f' j=if j=k then B2 (bp a) 10 else f j):=by
      refine ⟨fun j=>if j=k then B2 (bp a) 10 else f j,fun j hj=>?_,fun _=>rfl⟩;show (if j=k then B2 (bp a) 10 else f j)=Ei (l++[a]) j;split
      .next h=>rw [h];unfold Ei;rw [Adc _ _ _ _ _ n.len]
      .rw [n.val j (by omega)];unfold Ei;rw [Add _ _ _ (by rw [n.len];omega)]
     replace ⟨p,o,g,g2,c,x⟩:=H6 p o g g2 c x;obtain ⟨W3,al⟩:=Ex (w2.setCell ⟨w.heap.size+1,k,none⟩ (.int .i64 (B2 (bp a) 10)))
     have ad:vh w z (k+1) (l++[a]) r f' W3:=by
      rw [al];refine ⟨c.setCell (by simp) _,?_,C0 (by omega) _ g2.out,?_,aE.out,by simp [n.len],hcut.out,am.out⟩
      .obtain ⟨m,hm⟩:=x.out;exact ⟨m,(Bp (a:=⟨0,0,none⟩) (w:=w2) (Cm _ _ _ _ (by have:=av.out;show (0:Nat)≠w.heap.size+1;omega))).trans hm⟩
      .rw [Am g.out]
       rcases te h4 with rfl | rfl | rfl | rfl<;>simp [aF.out]
     replace ad:=Hh ad;have ao:=Hh al;clear al;have aH:=ap.out;subst aH
     all_goals
      go_wp2
      try rw [<- ao.out]
      go_roundw
      case rel=>exact ⟨_,_,_,f',by omega,by go_num,rfl,ad.out⟩
      case measure=>simp [intOf]
    .have s:(Ap 44 z.data.toList).length≠4:=(by rw [q.out,y,Rr e3];have:=Zi 44 r;simp [n.len];omega);replace ⟨s,y,e3,d,ap⟩:=H5 s y e3 d ap;have hz:=Zh s.out;have cx:=Aa n.res;have fx:=Af n.res;have t:=n.low;replace ⟨hz,t⟩:=H2 hz t;go_wp2;refine Ak (v:=.tuple #[V4.zero.val,.int .i64 11]) (by simp [results,results79,go_sem,cx,V4.zero]) rfl ⟨by rw [hz.out],?_⟩;exact (((((t.trans (A9 _ _ _)).setCell Ln _).setCell Ln _).setCell Ln _).setCell Ln _)
  .have hi:¬ (k:Int)<4:=(by omega);have k4:k=4:=(by omega);subst k4;have q:=n.cut;rw [Ac (by omega)] at q;have aC:Ez z=(O5 l).told 11:=(by unfold Ez;rw [q,Ad n.len]);have hv:=n.val;have e0:=hv 0 (by omega);have y:=hv 1 (by omega);have e2:=hv 2 (by omega);have e3:=hv 3 (by omega);have cc:=Aa n.arr;obtain ⟨v,hv⟩:∃ v:V4,v=O5 l:=⟨_,rfl⟩;have hc:(#[.int .i64 (f 0),.int .i64 (f 1),.int .i64 (f 2),.int .i64 (f 3)]:Array Value)=v.cells:=(by rw [hv,e0,y,e2,e3];rfl);rw [hc] at cc;have aG:=Zd v 11 wr;clear e0 y e2 e3 hc;rw [<- hv] at aC;replace ⟨q,aC,hv,aG⟩:=H4 q aC hv aG;go_wp2_with fail;refine aG.mono ?_;rintro e w2 ⟨rfl,p⟩;have c:=n.low.trans (p.mono n.low.size);have g2:=Ae p n.res (Ab n.res);clear cc;have cx:=Aa g2;have fx:=Af g2;obtain ⟨u,hu⟩:∃ u:V4,u=(v.told 11).1:=⟨_,rfl⟩;obtain ⟨r,hr⟩:∃ r:Int,r=(v.told 11).2:=⟨_,rfl⟩;rw [<- hu,<- hr];have aA:Ez z=(u,r):=(by rw [aC.out,hu,hr]);replace ⟨p,c,g2,hu,hr,aA⟩:=H6 p c g2 hu hr aA;go_wp2;refine Ak (v:=.tuple #[u.val,.int .i64 r]) (by simp [results,results79,go_sem,cx]) rfl ⟨by rw [aA.out],?_⟩;exact ((((c.setCell Ln _).setCell Ln _).setCell Ln _).setCell Ln _)
