/- Parts Rdg, Rdu, Rdt. Plain theorems: no condition. -/
import Derived.Test.YtimlcnhcjndijaaGreatDoorQ20
import Derived.Lib.VarintBits
set_option linter.all false
set_option maxRecDepth 100000
set_option maxHeartbeats 3200000
namespace Go.Proofs.YtimlcnhcjndijaaGreatDoor
open Go.RowKit Go.Maps
structure Ct (rb:Nat) (w w':World):Prop where
 os:w'.os=w.os
 tape:w'.tape=w.tape
 output:w'.output=w.output
 size:w.heap.size<=w'.heap.size
 block:∀ k,k<w.heap.size->k≠rb->w'.heap[k]?=w.heap[k]?
def Ct.refl (a:Nat) (w:World):Ct a w w:=⟨rfl,rfl,rfl,Nat.le_refl _,fun _ _ _=>rfl⟩
def Ct.trans {d:Nat} {a b c:World} (h:Ct d a b) (k:Ct d b c):Ct d a c:=
 ⟨k.os.trans h.os,k.tape.trans h.tape,k.output.trans h.output,A6 h.size k.size,fun i e f=>(k.block i (Br e h.size) f).trans (h.block i e f)⟩
def Ct.set (a o:Nat) (w:World) (v:Value):Ct a w (w.setCell ⟨a,o,none⟩ v):=
 ⟨rfl,rfl,rfl,by simp [World.setCell],fun k _ b=>Cd _ _ _ _ b⟩
def Ct.af {a:Nat} {w w':World} (h:Below w.heap.size w w'):Ct a w w':=⟨h.os,h.tape,h.output,h.size,fun k b _=>h.block k b⟩
def Ct.below {a B:Nat} {w w':World} (h:Ct a w w') (b:B<=a) (c:a<w.heap.size):Below B w w':=
 ⟨h.os,h.tape,h.output,h.size,fun k d=>h.block k (by omega) (by omega)⟩
def Ct.aq {a k:Nat} {w w':World} {o:Obj} (h:Ct a w w') (b:w.heap[k]?=some o) (c:k≠a):w'.heap[k]?=some o:=(h.block k (Ab b) c).trans b
structure ib (w:World) (rb B:Nat) (l:List UInt8) (e:Int):Prop where
 ex:∃ so n c,w.heap[rb]?=some (.cells #[.slice so n c,.int .i64 e] 194 (0,0))/\Iv w so n l/\n<=c/\(so=none->n=0/\c=0)/\(l≠[]->∀ ad,so=some ad->ad.block<B)
def ib.low {w w':World} {a B:Nat} {l:List UInt8} {e:Int} (h:ib w a B l e) (b:Below w.heap.size w w'):ib w' a B l e:=by
 obtain ⟨so,n,c,h1,d,f⟩:=h.ex;exact ⟨so,n,c,Ae b h1 (Ab h1),d.low b,f⟩
def ib.lt {w:World} {a B:Nat} {l:List UInt8} {e:Int} (h:ib w a B l e):a<w.heap.size:=by
 obtain ⟨so,n,c,h1,_⟩:=h.ex;exact Ab h1
def Al3 {w:World} {j:Nat} {so f:Option Addr} {n m c:Nat} {l:List UInt8} {e:Int} {T:TypeId} {fr:Nat×Nat} (o:w.heap[j]?=some (.cells #[.slice f m c,.int .i64 e] T fr)) (h:Iv w so n l):∀ i x,l[i]?=some x->∃ b a,so=some ⟨b,a,none⟩/\b<w.heap.size/\b≠j/\w.cell? ⟨b,a+i,none⟩=some (.int .u8 x.toNat):=by
 intro i x p;obtain ⟨b,a,q,g,d⟩:=h.cell i x p;refine ⟨b,a,q,g,fun r=>?_,d⟩;subst r;rw [Aa o] at d;rcases Nat.lt_or_ge (a+i) 2 with k | k
 .have:a+i=0\/a+i=1:=by omega
  rcases this with e | e<;>rw [e] at d<;>simp at d
 .rw [Array.getElem?_eq_none (by simpa using k)] at d;cases d
def Al4 {w w':World} {j:Nat} {so d:Option Addr} {n m c:Nat} {l:List UInt8} {e:Int} {T:TypeId} {fr:Nat×Nat} (o:w.heap[j]?=some (.cells #[.slice d m c,.int .i64 e] T fr)) (h:Iv w so n l) (k:Ct j w w'):Iv w' so n l:=
 ⟨h.len,h.max,fun i x p=>by
  obtain ⟨b,f,q,a,g,r⟩:=Al3 o h i x p;refine ⟨b,f,q,Br a k.size,?_⟩;rw [<- r]
  simp only [World.cell?,k.block b a g]⟩
def Al5 {w:World} {b a n:Nat} {l:List UInt8} (h:Iv w (some ⟨b,a,none⟩) n l) (k:Nat) (j:k<=n):Iv w (some ⟨b,a+k,none⟩) (n-k) (l.drop k):=
 ⟨by rw [G7,h.len],by have:=h.max;omega,fun i x d=>by
  rw [Ol] at d;obtain ⟨m,f,e,c,g⟩:=h.cell (k+i) x d;simp only [Option.some.injEq,Addr.mk.injEq,and_true] at e;obtain ⟨rfl,rfl⟩:=e
  exact ⟨b,a+k,rfl,c,by rw [Nat.add_assoc];exact g⟩⟩
def Al6 {w:World} {so:Option Addr} {n:Nat} {l:List UInt8} (h:Iv w so n l):l≠[]->∀ a,so=some a->a.block<w.heap.size:=by
 intro f a e
 cases l with
 | nil=>exact absurd rfl f
 | cons x l=>
  obtain ⟨b,g,d,c,_⟩:=h.cell 0 x rfl;rw [e] at d;rw [J0 d];exact c
def Al7 (w:World) {so:Option Addr} {n c:Nat} {l:List UInt8} (h:Iv w so n l) (b:n<=c) (a:so=none->n=0/\c=0):ib (w.alloc (.cells #[.slice so n c,.int .i64 0] 194 (0,0))) w.heap.size w.heap.size l 0:=
 ⟨so,n,c,Af _ _,h.low Bn,b,a,Al6 h⟩
def Al8 {w:World} {so:Option Addr} {n c:Nat} {l:List UInt8} (h:Iv w so n l) (d:n<=c) (a:so=none->n=0/\c=0) :
  Calls Tryz.prog 62 #[.slice so n c] w fun e w'=>e=.returned (.pointer (some ⟨w.heap.size,0,none⟩))/\ib w' w.heap.size w.heap.size l 0/\Below w.heap.size w w':=by
 have b:=Al7 w h d a;replace ⟨b,h,a⟩:=H3 b h a;go_enter Tryz.func62,Tryz.ntmps62;go_wp2;go_ret;exact ⟨rfl,b.out,Bn⟩
def Acm {w:World} {a B:Nat} {l:List UInt8} {e:Int} (h:ib w a B l e):Calls Tryz.prog 105 #[.pointer (some ⟨a,0,none⟩)] w fun g w'=>g=.returned (.int .i64 e)/\w'=w:=by
 obtain ⟨so,n,c,h1,b,i,d,f⟩:=h.ex;have j:=Bk h1 1 (.int .i64 e) rfl;replace ⟨h,h1,b,d,f⟩:=H5 h h1 b d f;go_enter Tryz.func105,Tryz.ntmps105;go_wp2;go_ret;exact ⟨rfl,rfl⟩
def Al9 {w:World} {d B:Nat} {l:List UInt8} {e:Int} (h:ib w d B l e):Calls Tryz.prog 107 #[.pointer (some ⟨d,0,none⟩)] w fun i w'=>i=.returned (.int .i64 l.length)/\w'=w:=by
 obtain ⟨so,n,c,h1,a,j,f,g⟩:=h.ex;have k:=Bk h1 0 (.slice so n c) rfl;have b:=a.len;replace ⟨h,h1,a,f,g,b⟩:=H6 h h1 a f g b;go_enter Tryz.func107,Tryz.ntmps107;go_wp2;go_ret;exact ⟨by rw [b.out];rfl,rfl⟩
def Vk (l:List UInt8) (e x:Int):List UInt8:=if e=0/\x≠0 then [] else l
def Rs (e x:Int):Int:=if e=0/\x≠0 then x else e
def Yp {w:World} {a B:Nat} {l:List UInt8} {e:Int} (h:ib w a B l e) (x:Int):Calls Tryz.prog 108 #[.pointer (some ⟨a,0,none⟩),.int .i64 x] w fun r w'=>r=.returned (.tuple #[])/\ib w' a B (Vk l e x) (Rs e x)/\Ct a w w':=by
 obtain ⟨so,n,c,h1,g,t,i,j⟩:=h.ex;have u:=Bk h1 1 (.int .i64 e) rfl;by_cases q:e=0
 .by_cases f:x=0
  .have p:(e == (0:Int))=true:=(by rw [q];rfl);have s:(x != (0:Int))=false:=(by rw [f];rfl);have b:Vk l e x=l:=Ac (fun c=>c.2 f);have d:Rs e x=e:=Ac (fun c=>c.2 f);replace ⟨h,h1,g,i,j,q,f,b⟩:=H8 h h1 g i j q f b;replace d:=Hh d;go_enter Tryz.func108,Tryz.ntmps108;go_wp2;go_end0;exact ⟨rfl,by rw [b.out,d.out];exact h.out,Ct.refl _ _⟩
  .have p:(e == (0:Int))=true:=(by rw [q];rfl);have s:(x != (0:Int))=true:=(by rw [Fg];exact f);have b:Vk l e x=[]:=Ad ⟨q,f⟩;have d:Rs e x=x:=Ad ⟨q,f⟩;have v:=Ah h1 1;have y:=Ah (Al h1 1 (.int .i64 x)) 0;have z:(w.setCell ⟨a,1,none⟩ (.int .i64 x)).cell? ⟨a,0,none⟩=some (.slice so n c):=(by rw [Aa (Al h1 1 _)];simp);have k:=Al (Al h1 1 (.int .i64 x)) 0 (.slice none 0 0);have m:Ct a w ((w.setCell ⟨a,1,none⟩ (.int .i64 x)).setCell ⟨a,0,none⟩ (.slice none 0 0)):=(Ct.set a 1 w _).trans (Ct.set a 0 _ _);have o:ib ((w.setCell ⟨a,1,none⟩ (.int .i64 x)).setCell ⟨a,0,none⟩ (.slice none 0 0)) a B [] x:=⟨none,0,0,by simpa using k,Al2 _,Nat.le_refl _,fun _=>⟨rfl,rfl⟩,fun h=>absurd rfl h⟩;replace ⟨h,h1,g,i,j,q,f,b⟩:=H8 h h1 g i j q f b;replace ⟨d,k,m,o⟩:=H4 d k m o;go_enter Tryz.func108,Tryz.ntmps108;go_wp2;go_end0;exact ⟨rfl,by rw [b.out,d.out];exact o.out,m.out⟩
 .have p:(e == (0:Int))=false:=by rw [Bg];exact q
  have b:Vk l e x=l:=Ac (fun c=>q c.1);have d:Rs e x=e:=Ac (fun c=>q c.1);replace ⟨h,h1,g,i,j,q,b,d⟩:=H8 h h1 g i j q b d;go_enter Tryz.func108,Tryz.ntmps108;go_wp2;go_end0;exact ⟨rfl,by rw [b.out,d.out];exact h.out,Ct.refl _ _⟩
def Jn (l:List UInt8) (e:Int):Nat×List UInt8×Int:=if e=0 then Eh 0 0 l else (0,l,e)
def Ama {a m k:Nat} (g:k<=9) (b:a<128 ^ k) (r:m<256) (h:k=9->m<=1) :
  bits .or .u64 (a:Int) (IntKind.u64.wrap (IntKind.u64.wrap (bits .and .u8 (m:Int) 127)*2 ^ (7*k)))=((a+(m % 128)*128 ^ k:Nat):Int):=by
 have d:(128:Nat) ^ k=2 ^ (7*k):=by rw [show (128:Nat)=2 ^ 7 by decide,<- Nat.pow_mul]
 have s:(m % 128)*128 ^ k<18446744073709551616:=by
  by_cases c:k=9
  .have h1:=h c;subst c;rw [p9];omega
  .have h1:128 ^ k<=128 ^ 8:=Nat.pow_le_pow_right (by omega) (by omega);have i:(m % 128)*128 ^ k<=127*128 ^ 8:=Oq (by omega) h1;exact Nat.lt_of_le_of_lt i (by decide)
 have t:a<18446744073709551616:=by have h1:128 ^ k<=128 ^ 9:=Nat.pow_le_pow_right (by omega) g;rw [p9] at h1;omega
 rw [u8_and127 _ (by omega) (by omega)];have j:((m:Int) % 128)=((m % 128:Nat):Int):=by omega
 have l:IntKind.u64.wrap ((m % 128:Nat):Int)=((m % 128:Nat):Int):=wraps_u64 _ (by omega) (by omega);have e:((m % 128:Nat):Int)*2 ^ (7*k)=(((m % 128)*128 ^ k:Nat):Int):=by rw [d];simp
 have f:(((m % 128)*128 ^ k:Nat):Int)<2 ^ 64:=by omega
 have n:(a:Int)<2 ^ 64:=by omega
 have o:(a:Int)<2 ^ (7*k):=by
  rw [d] at b
  exact_mod_cast b
 have p:(((m % 128)*128 ^ k:Nat):Int) % 2 ^ (7*k)=0:=by rw [<- e];exact Int.mul_emod_left _ _
 have q:=wraps_u64 _ (by omega) f;rw [j,l,e,q,bits_join_low .u64 64 (by decide) wraps_u64 (7*k) _ _ (by omega) o n (by omega) p f];rw [Int.natCast_add]
structure xh (W:World) (q:Bool) (bv:Value) (wx:World):Prop where
 b:bv=.bool q
 w:W=wx
def Amb {w:World} {v B:Nat} {l:List UInt8} {e:Int} (h:ib w v B l e):Calls Tryz.prog 213 #[.pointer (some ⟨v,0,none⟩)] w fun en w'=>en=.returned (.int .u64 (Jn l e).1)/\ib w' v B (Jn l e).2.1 (Jn l e).2.2/\Ct v w w':=by
 obtain ⟨so,n,c,h1,h2,h3,h4,h5⟩:=h.ex;have y1:=Bk h1 1 (.int .i64 e) rfl;have y0:=Bk h1 0 (.slice so n c) rfl;have f0:=Ah h1 0;by_cases q:e=0;rotate_left
 .have d1:(e != (0:Int))=true:=by rw [Fg];exact q
  have e1:Jn l e=(0,l,e):=Ac q;replace ⟨h,h1,h2,h4,h5,q,e1⟩:=H7 h h1 h2 h4 h5 q e1;go_enter Tryz.func213,Tryz.ntmps213;go_wp2;go_ret;exact ⟨by rw [e1.out];rfl,by rw [e1.out];exact h.out,Ct.refl _ _⟩
 subst q;have e1:Jn l 0=Eh 0 0 l:=Ad rfl;have hl:=h2.len;have aJ:=h2.max;replace ⟨h,h1,h2,h4,h5,e1,hl⟩:=H7 h h1 h2 h4 h5 e1 hl;go_enter Tryz.func213,Tryz.ntmps213;go_wp2;go_loopw [3,4,5] (fun nv iv _ wr=>∃ k r:Nat,nv=.int .u64 r/\iv=.int .i64 k/\k<=n/\k<=9/\Hid (r<128 ^ k)/\Hid (Eh 0 0 l=Eh k r (l.drop k))/\Hid (wr=w)) (fun _ iv _ _=>n-(intOf iv).toNat)
 case atStart=>exact ⟨0,0,rfl,rfl,Av _,by omega,(show 0<128 ^ 0 by decide),rfl,rfl⟩
 case round=>
  obtain ⟨k,r,rfl,rfl,hk,aF,al,y,hw⟩:=hrel;have aG:=hw.out;subst aG;by_cases hc:k=n
  .have d3:((k:Int) == (n:Int))=true:=(by rw [hc];simp);have am:l.drop k=[]:=List.drop_of_length_le (by rw [hl.out,hc];exact Nat.le_refl _);have j:Jn l 0=(0,[],10):=(by rw [e1.out,y.out,am];rfl);have hF:=Yp h.out 10;replace ⟨am,j,hF,hc⟩:=H4 am j hF hc;go_wp2_with fail;refine hF.out.mono ?_;rintro e w1 ⟨rfl,s,o⟩;replace ⟨s,o⟩:=H2 s o;go_wp2;go_ret;exact ⟨by rw [j.out];rfl,by rw [j.out];exact s.out,o.out⟩
  .have d3:((k:Int) == (n:Int))=false:=(by rw [Bg];omega);have aK:(k:Int)<n:=(by omega);have aL:(0:Int)<=(k:Int):=(by omega);obtain ⟨x,hx⟩:∃ x,l[k]?=some x:=⟨_,Am (by rw [hl.out];omega)⟩;obtain ⟨b,p,rfl,aM,an⟩:=h2.out.cell k x hx;obtain ⟨m,hm⟩:=Ex (x.toNat);have ao:m<256:=(by rw [hm];exact x.toNat_lt);rw [<- hm] at an;have g:l.drop k=x :: l.drop (k+1):=by rw [List.drop_eq_getElem_cons (by rw [hl.out];omega)];rw [Am (by rw [hl.out];omega)] at hx;rw [J0 hx]
   have ap:l≠[]:=fun c=>by rw [c] at hx;simp at hx
   replace ⟨hx,hm,g,ap⟩:=H4 hx hm g ap;go_upto_region 10 with fail;obtain ⟨q,u⟩:=Ex (decide ((k=9/\1<m)\/(0<k/\m=0)));replace u:=Hh u;go_cut [46] from 33 to 47 (fun bv wx=>xh wr q bv wx)
   case first=>
    by_cases t:k=9
    .have a1:((k:Int) == (9:Int))=true:=(by rw [t];rfl);by_cases m1:1<m
     .have a2:decide ((1:Int)<(m:Int))=true:=Az (by omega);have f:decide ((k=9/\1<m)\/(0<k/\m=0))=true:=Az (.inl ⟨t,m1⟩);replace ⟨t,f⟩:=H2 t f;go_wp2;go_meet;exact ⟨by rw [u.out,f.out],rfl⟩
     .have a2:decide ((1:Int)<(m:Int))=false:=Aw (by omega);have aC:decide (0<k)=true:=Az (by omega);by_cases z:m=0
      .have a4:((m:Int) == (0:Int))=true:=(by rw [z];rfl);have f:decide ((k=9/\1<m)\/(0<k/\m=0))=true:=Az (by omega);replace ⟨z,t,f⟩:=H3 z t f;go_wp2;go_meet;exact ⟨by rw [u.out,f.out],rfl⟩
      .have a4:((m:Int) == (0:Int))=false:=(by rw [Bg];omega);have f:decide ((k=9/\1<m)\/(0<k/\m=0))=false:=Aw (by omega);replace ⟨z,t,f⟩:=H3 z t f;go_wp2;go_meet;exact ⟨by rw [u.out,f.out],rfl⟩
    .have a1:((k:Int) == (9:Int))=false:=(by rw [Bg];omega);by_cases k0:0<k
     .have aC:decide (0<k)=true:=Az k0;by_cases z:m=0
      .have a4:((m:Int) == (0:Int))=true:=(by rw [z];rfl);have f:decide ((k=9/\1<m)\/(0<k/\m=0))=true:=Az (by omega);replace ⟨z,t,f⟩:=H3 z t f;go_wp2;go_meet;exact ⟨by rw [u.out,f.out],rfl⟩
      .have a4:((m:Int) == (0:Int))=false:=(by rw [Bg];omega);have f:decide ((k=9/\1<m)\/(0<k/\m=0))=false:=Aw (by omega);replace ⟨z,t,f⟩:=H3 z t f;go_wp2;go_meet;exact ⟨by rw [u.out,f.out],rfl⟩
     .have aC:=Aw k0;have f:decide ((k=9/\1<m)\/(0<k/\m=0))=false:=Aw (by omega);replace ⟨t,f,k0⟩:=H3 t f k0;go_wp2;go_meet;exact ⟨by rw [u.out,f.out],rfl⟩
   case rest=>
    obtain ⟨rfl,aH⟩:=hcut;subst aH;by_cases a:(k=9/\1<m)\/(0<k/\m=0)
    .rw [u.out,Az a];have j:Jn l 0=(0,[],11):=(by rw [e1.out,y.out,g.out,Eh,Ad (by rw [<- hm.out];exact a)]);have hF:=Yp h.out 11;clear u;replace ⟨j,hF,a⟩:=H3 j hF a;go_wp2_with fail;refine hF.out.mono ?_;rintro e w1 ⟨rfl,s,o⟩;replace ⟨s,o⟩:=H2 s o;go_wp2;go_ret;exact ⟨by rw [j.out];rfl,by rw [j.out];exact s.out,o.out⟩
    .rw [u.out,Aw a];clear u;replace a:=Hh a;have aD:=a.out;have aE:=Ama aF al.out ao (fun c=>by omega);have ac:Eh 0 0 l=if m<128 then (r+m*128 ^ k,l.drop (k+1),0) else Eh (k+1) (r+(m-128)*128 ^ k) (l.drop (k+1)):=(by rw [y.out,g.out,Eh,Ac (by rw [<- hm.out];exact aD),<- hm.out]);clear aD;obtain ⟨A,hA⟩:=Ex (r+(m % 128)*128 ^ k);rw [<- hA] at aE;replace ⟨ac,hA⟩:=H2 ac hA;go_upto_region 14 with fail;clear aE;by_cases d:m<128
     .have d5:decide ((m:Int)<128)=true:=Az (by omega);have j:Jn l 0=(A,l.drop (k+1),0):=(by rw [e1.out,ac.out,Ad d,hA.out,Nat.mod_eq_of_lt d]);have aN:IntKind.i64.wrap ((k:Int)+1)=(k:Int)+1:=Gt _ (by omega);by_cases aI:c=k+1
      .obtain rfl:n=k+1:=(by omega);subst aI;have s:ib (wr.setCell ⟨v,0,none⟩ (.slice (some ⟨b,p,none⟩) 0 0)) v B (l.drop (k+1)) 0:=(by have hz:=List.drop_of_length_le (by rw [hl.out];exact Nat.le_refl _);rw [hz];exact ⟨some ⟨b,p,none⟩,0,0,by simpa using Al h1.out 0 (.slice (some ⟨b,p,none⟩) 0 0),⟨rfl,by omega,fun i x hx=>by simp at hx⟩,Nat.le_refl _,fun h=>(by cases h),fun h=>absurd rfl h⟩);have o:=Ct.set v 0 wr (.slice (some ⟨b,p,none⟩) 0 0);replace ⟨j,s,o,d⟩:=H4 j s o d;go_wp2;go_ret;exact ⟨by rw [j.out];rfl,by rw [j.out];exact s.out,o.out⟩
      .have s:ib (wr.setCell ⟨v,0,none⟩ (.slice (some ⟨b,p+(k+1),none⟩) (n-(k+1)) (c-(k+1)))) v B (l.drop (k+1)) 0:=(by have o:=Ct.set v 0 wr (.slice (some ⟨b,p+(k+1),none⟩) (n-(k+1)) (c-(k+1)));exact ⟨_,_,_,by simpa using Al h1.out 0 (.slice (some ⟨b,p+(k+1),none⟩) (n-(k+1)) (c-(k+1))),Al4 h1.out (Al5 h2.out (k+1) (by omega)) o,by omega,fun h=>(by cases h),fun _ ad e=>by have h6:=h5.out ap.out _ rfl;rw [<- J0 e];exact h6⟩);have o:=Ct.set v 0 wr (.slice (some ⟨b,p+(k+1),none⟩) (n-(k+1)) (c-(k+1)));replace ⟨j,s,o,d⟩:=H4 j s o d;go_wp2;go_ret;exact ⟨by rw [j.out];rfl,by rw [j.out];exact s.out,o.out⟩
     .have d5:decide ((m:Int)<128)=false:=Aw (by omega);have aO:k<=8:=(by have:=a.out;omega);have av:m % 128=m-128:=(by omega);have aA:Eh 0 0 l=Eh (k+1) A (l.drop (k+1)):=(by rw [ac.out,Ac d,hA.out,av]);have aB:A<128 ^ (k+1):=(by rw [hA.out,Nat.pow_succ];have h1:=al.out;have h2:(m % 128)*128 ^ k<=127*128 ^ k:=Oq (by omega) Ln;omega);replace ⟨aA,aB,av,d⟩:=H4 aA aB av d;go_wp2;go_roundw
      case rel=>exact ⟨k+1,A,rfl,by go_num,by omega,by omega,aB.out,aA.out,by first | rfl | exact By⟩
      case measure=>simp [intOf];omega
def Acn:∀ (l:List UInt8) (i a:Nat),(Eh i a l).2.2≠0->Eh i a l=(0,[],(Eh i a l).2.2)/\((Eh i a l).2.2=10\/(Eh i a l).2.2=11)
 | [],i,a,_=>⟨rfl,.inl rfl⟩
 | c :: l,i,a,h=>by
  rw [Eh] at h ⊢;split
  .exact ⟨rfl,.inr rfl⟩
  .next g=>
   rw [Ac g] at h;split
   .next q=>rw [Ad q] at h;exact absurd rfl h
   .next q=>
    rw [Ac q] at h;exact Acn l (i+1) _ h
def Amc (l:List UInt8):(Eh 0 0 l).1<18446744073709551616:=by
 by_cases h:(Eh 0 0 l).2.2=0
 .obtain ⟨n,a,_,b,_⟩:=Acl l 0 0 (Eh 0 0 l).1 (Eh 0 0 l).2.1 (by omega) (by rw [<- h]);rw [a];omega
 .rw [(Acn l 0 0 h).1];exact (by decide:0<18446744073709551616)
def Amd (l:List UInt8) (e:Int):(Jn l e).1<18446744073709551616:=by
 unfold Jn;split
 .exact Amc l
 .exact (by decide:0<18446744073709551616)
def N3 (l:List UInt8) (e:Int):Int×List UInt8×Int:=(Yo (Jn l e).1,(Jn l e).2.1,(Jn l e).2.2)
def Ame (u:Nat) (h:u<18446744073709551616):bits .xor .i64 (wrap64 ((u:Int) / 2)) (wrap64 (-(wrap64 (bits .and .u64 (u:Int) 1))))=Yo u:=by
 rw [Lib.u64_and1 _ (by omega) (by omega),IntWalk.wrap64_in _ (by omega),IntWalk.wrap64_in ((u:Int) % 2) (by omega),IntWalk.wrap64_in _ (by omega)];have c:∀ a b:Int,bits .xor .i64 a b=IntKind.i64.wrap ((BitVec.ofInt 64 a ^^^ BitVec.ofInt 64 b).toNat:Int):=fun _ _=>rfl;have d:(u:Int) / 2=((u / 2:Nat):Int):=by omega
 unfold Yo;by_cases q:u % 2=1
 .rw [Ad q,show -((u:Int) % 2)=-1 by omega,c,BitVec.xor_comm,<- c,d,Lib.i64_not _ (by omega)]
 .rw [Ac q,show -((u:Int) % 2)=0 by omega,c,d];have h0:BitVec.ofInt 64 0=0#64:=by decide
  rw [h0,BitVec.xor_zero,BitVec.ofInt_natCast,BitVec.toNat_ofNat,Nat.mod_eq_of_lt (by omega),IntKind.wrap_i64];omega
def Amf {w:World} {b B:Nat} {l:List UInt8} {e:Int} (h:ib w b B l e):Calls Tryz.prog 161 #[.pointer (some ⟨b,0,none⟩)] w fun g w'=>g=.returned (.int .i64 (N3 l e).1)/\ib w' b B (N3 l e).2.1 (N3 l e).2.2/\Ct b w w':=by
 have c:=Amb h;obtain ⟨u,a⟩:=Ex ((Jn l e).1);rw [<- a] at c;have i:=Ame u (by rw [a];exact Amd l e);replace ⟨c,h,a⟩:=H3 c h a;go_enter Tryz.func161,Tryz.ntmps161;go_wp2_with fail;refine c.out.mono ?_;rintro g w1 ⟨rfl,d,f⟩;replace ⟨d,f⟩:=H2 d f;go_wp2;go_ret;exact ⟨by unfold N3;rw [<- a.out];rfl,d.out,f.out⟩
def Vl (l:List UInt8) (e:Int):Int:=if 0<l.length then Rs e 11 else e
def Amg {w:World} {k B:Nat} {l:List UInt8} {e:Int} (h:ib w k B l e):Calls Tryz.prog 64 #[.pointer (some ⟨k,0,none⟩)] w fun j w'=>j=.returned (.int .i64 (Vl l e))/\Ct k w w':=by
 have a:=Al9 h;by_cases q:0<l.length
 .have d:decide ((0:Int)<(l.length:Int))=true:=Az (by omega);have n:=Az q;have hF:=Yp h 11;obtain ⟨m,b⟩:=Ex (l.length);rw [<- b] at a d n;have c:Vl l e=Rs e 11:=Ad q;replace ⟨a,h,q,hF,c,b⟩:=H6 a h q hF c b;go_enter Tryz.func64,Tryz.ntmps64;go_wp2_with fail;refine a.out.mono ?_;rintro j w1 ⟨rfl,rfl⟩;go_wp2_with fail;refine hF.out.mono ?_;rintro j p ⟨rfl,f,g⟩;have i:=Acm f;replace ⟨f,g,i⟩:=H3 f g i;go_wp2_with fail;refine i.out.mono ?_;rintro j o ⟨rfl,rfl⟩;go_wp2;go_ret;exact ⟨by rw [c.out];rfl,g.out⟩
 .have d:decide ((0:Int)<(l.length:Int))=false:=Aw (by omega);have n:=Aw q;obtain ⟨m,b⟩:=Ex (l.length);rw [<- b] at a d n;have c:Vl l e=e:=Ac q;have i:=Acm h;replace ⟨a,h,q,c,b,i⟩:=H6 a h q c b i;go_enter Tryz.func64,Tryz.ntmps64;go_wp2_with fail;refine a.out.mono ?_;rintro j w1 ⟨rfl,rfl⟩;go_wp2_with fail;refine i.out.mono ?_;rintro j o ⟨rfl,rfl⟩;go_wp2;go_ret;exact ⟨by rw [c.out];rfl,Ct.refl _ _⟩
end Go.Proofs.YtimlcnhcjndijaaGreatDoor
