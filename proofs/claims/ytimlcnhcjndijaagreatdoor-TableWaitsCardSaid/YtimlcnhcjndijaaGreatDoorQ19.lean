/- Numbers as bytes, plain. Plain theorems: no condition. -/
import Derived.Test.YtimlcnhcjndijaaGreatDoorQ01
import Derived.Lib.Zigzag
set_option linter.all false
set_option maxRecDepth 100000
set_option maxHeartbeats 1600000
namespace Go.Proofs.YtimlcnhcjndijaaGreatDoor
abbrev Vj (n:Nat):List UInt8:=Lib.uvarint n
def Al0 {n:Nat} (h:n<128):Vj n=[UInt8.ofNat n]:=Lib.uvarint_small h
def Al1 {n:Nat} (h:¬ n<128):Vj n=UInt8.ofNat (128+n % 128) :: Vj (n / 128):=by
 rw [Nat.add_comm 128];exact Lib.uvarint_big (by omega)
def Eh:Nat->Nat->List UInt8->Nat×List UInt8×Int
 | _,_,[]=>(0,[],10)
 | i,acc,c :: l=>if (i=9/\1<c.toNat)\/(0<i/\c.toNat=0) then (0,[],11) else
  if c.toNat<128 then (acc+c.toNat*128 ^ i,l,0) else Eh (i+1) (acc+(c.toNat-128)*128 ^ i) l
def p9:128 ^ 9=9223372036854775808:=by decide
def Acl:∀ (l:List UInt8) (i a v:Nat) (r:List UInt8),i<=9->Eh i a l=(v,r,0)->∃ n,v=a+n*128 ^ i/\l=Vj n++r/\n*128 ^ i<18446744073709551616/\(0<i->0<n)
 | [],i,a,v,r,_,h=>by simp [Eh] at h
 | c :: l,i,a,v,r,h9,h=>by
  rw [Eh] at h;by_cases g:(i=9/\1<c.toNat)\/(0<i/\c.toNat=0)
  .rw [Ad g] at h;simp at h
  rw [Ac g] at h;have u:c.toNat<256:=c.toNat_lt;by_cases q:c.toNat<128
  .rw [Ad q] at h;simp only [Pu] at h;obtain ⟨rfl,rfl,_⟩:=h;refine ⟨c.toNat,rfl,by rw [Al0 q];simp,?_,fun x=>?_⟩
   .by_cases e:i=9
    .subst e;rw [p9];omega
    .have h1:128 ^ i<=128 ^ 8:=Nat.pow_le_pow_right (by omega) (by omega);have f:c.toNat*128 ^ i<=127*128 ^ 8:=Oq (by omega) h1;have m:127*128 ^ 8<18446744073709551616:=(by decide);omega
   .omega
  .rw [Ac q] at h;have x:i<=8:=(by omega);obtain ⟨n,y,z,b,d⟩:=Acl l (i+1) _ v r (by omega) h;have hn:=d (by omega);have o:128 ^ (i+1)=128 ^ i*128:=Nat.pow_succ ..;have p:(c.toNat-128+n*128)*128 ^ i=(c.toNat-128)*128 ^ i+n*128 ^ (i+1):=(by rw [Kx,o,Nat.mul_assoc n,Nat.mul_comm 128 (128 ^ i)]);refine ⟨c.toNat-128+n*128,by rw [p,y];omega,?_,?_,fun _=>by omega⟩
   .rw [Al1 (by omega)];have h1:(c.toNat-128+n*128) / 128=n:=(by omega);have f:128+(c.toNat-128+n*128) % 128=c.toNat:=(by omega);rw [h1,f,UInt8.ofNat_toNat,z];rfl
   .rw [p];by_cases e:i=8
    .subst e
     have hb:n<=1:=by
      have:(128:Nat) ^ (8+1)=9223372036854775808:=by decide
      rw [this] at b;omega
     have h1:(c.toNat-128)*128 ^ 8<=127*128 ^ 8:=Oq (by omega) Ln;have f:n*128 ^ (8+1)<=1*128 ^ 9:=Oq hb Ln;have m:127*128 ^ 8+1*128 ^ 9<18446744073709551616:=(by decide);exact Nat.lt_of_le_of_lt (Nat.add_le_add h1 f) m
    .have s:(c.toNat-128)*128 ^ i<=127*128 ^ i:=Oq (by omega) Ln;have hk:∃ K,128 ^ (i+1)*K=18446744073709551616/\K=2 ^ (64-7*(i+1)):=(by refine ⟨_,?_,rfl⟩;rw [show (128:Nat)=2 ^ 7 by decide,<- Nat.pow_mul,<- Nat.pow_add,show 7*(i+1)+(64-7*(i+1))=64 by omega]);obtain ⟨K,hK,_⟩:=hk;rw [<- hK] at b ⊢;rw [Nat.mul_comm n] at b ⊢;have k:=Nat.lt_of_mul_lt_mul_left b;have j:128 ^ (i+1)*(n+1)<=128 ^ (i+1)*K:=Oq Ln k;have ac:0<128 ^ i:=Nat.pow_pos (by omega);have t:127*128 ^ i<128 ^ (i+1):=(by rw [o];omega);rw [Nat.mul_add,Nat.mul_one] at j;generalize 128 ^ (i+1)*n=X at j ⊢;generalize 128 ^ (i+1)*K=Y at j ⊢;generalize (c.toNat-128)*128 ^ i=Z at s ⊢;generalize 127*128 ^ i=U at s t;generalize 128 ^ (i+1)=V at j t;omega
def Yo (u:Nat):Int:=if u % 2=1 then -((u / 2:Nat):Int)-1 else ((u / 2:Nat):Int)
end Go.Proofs.YtimlcnhcjndijaaGreatDoor
