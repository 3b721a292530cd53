import Derived.Test.YtjnlogbbcceaoaaGreatO0
import Derived.Sort.Row
import Derived.Sort.Grow
import Derived.Sort.EncStr
import Derived.Lib.RowBridge
import Derived.Test.YtjnlogbbcceaoaaGreatRows
import Derived.ProofKit
import Derived.Deep.Slices
set_option linter.all false
set_option maxRecDepth 100000
set_option maxHeartbeats 32000000
namespace Go.Sx
open Go
theorem gz {α:Type}{enc:α→List Value}{k:Nat}:∀{l:List α},(∀x∈l,(enc x).length=k)→(l.flatMap enc).length=l.length * k
 | [],_=>by simp
 | x::l,h=>by
  simp only [List.flatMap_cons,List.length_append,List.length_cons,Nat.succ_mul]
  rw [h x sq,gz (fun y hy=>h y (List.mem_cons_of_mem _ hy))];omega
theorem oi {α:Type}{enc:α→List Value}{k:Nat}:∀{l:List α},(∀x∈l,(enc x).length=k)→∀(i:Nat) (x:α),l[i]? =some x→∀j u,(enc x)[j]? =some u→(l.flatMap enc)[i * k+j]? =some u
 | [],_,i,x,hx,_,_,_=>by simp at hx
 | y::l,hk,0,x,hx,j,u,hu=>by
  simp only [List.getElem?_cons_zero,Option.some.injEq] at hx
  subst hx
  have:j<(enc y).length:=(List.getElem?_eq_some_iff.1 hu).1
  simp only [List.flatMap_cons,Nat.zero_mul,Nat.zero_add]
  rw [List.getElem?_append_left this];exact hu
 | y::l,hk,i+1,x,hx,j,u,hu=>by
  have h1:=hk y sq
  simp only [List.flatMap_cons]
  rw [List.getElem?_append_right (by rw [h1,Nat.succ_mul];omega),h1,show(i+1) * k+j - k=i * k+j by rw [Nat.succ_mul];omega]
  exact oi (fun z hz=>hk z (List.mem_cons_of_mem _ hz)) i x (by simpa using hx) j u hu
theorem iZ {α:Type}{enc:α→List Value}{k:Nat}(hk:0<k):∀{l:List α},(∀x∈l,(enc x).length=k)→∀(o:Nat) (u:Value),(l.flatMap enc)[o]? =some u→∃x,l[o / k]? =some x∧(enc x)[o % k]? =some u
 | [],_,o,u,h=>by simp at h
 | y::l,hl,o,u,h=>by
  have h1:=hl y sq
  simp only [List.flatMap_cons] at h
  by_cases ho:o<k
  ·rw [List.getElem?_append_left om] at h
   exact⟨y,by rw [Nat.div_eq_of_lt ho];rfl,by rw [Nat.mod_eq_of_lt ho];exact h⟩
  ·rw [List.getElem?_append_right om,h1] at h
   obtain⟨x,hx,hu⟩:=iZ hk (fun z hz=>hl z (List.mem_cons_of_mem _ hz)) (o - k) u h
   refine⟨x,?_,?_⟩
   ·rw [show o / k=(o - k) / k+1 by rw [← Nat.add_div_right _ hk];congr 1;omega]
    simpa using hx
   ·rw [show o % k=(o - k) % k from Nat.mod_eq_sub_mod om];exact hu
class Cells {α:Type} (k:outParam Nat) (enc:α→List Value):Prop where
 len:∀x,(enc x).length=k
 pos:0<k
 one:∀x,(enc x).all (·.oneCell')=true
def OwnSl {α:Type}(k:Nat)(enc:α→List Value)(v:Value)(xs:List α)(ob:aj):Prop:=
 (v= .slice none 0 0∧xs=[]∧ob=[])∨
 ∃b cap cs,v= .slice (some ⟨b,0,none⟩) xs.length cap∧ob=[(b,cs)]∧cs.length=cap * k∧cs.take (xs.length * k)=xs.flatMap enc∧xs.length≤cap∧cap≤9223372036854775807
theorem OwnSl.nil {α:Type}{k:Nat}{enc:α→List Value}:OwnSl k enc (.slice none 0 0) [] []:=.inl ⟨rfl,rfl,rfl⟩
theorem OwnSl.blk {α:Type}{k:Nat}{enc:α→List Value}[he:Cells k enc]{b n:Nat}{cs:List Value}(xs:List α)(hn:n=xs.length)(hc:cs=xs.flatMap enc)(hm:n≤9223372036854775807):OwnSl k enc (.slice (some ⟨b,0,none⟩) n n) xs [(b,cs)]:=by
 subst hn hc
 have:=gz (l:=xs) (fun x _=>he.len x)
 exact .inr ⟨b,_,_,rfl,rfl,this,by rw [← this,List.take_length],Nat.le_refl _,hm⟩
theorem OwnSl.form {α:Type}{k:Nat}{enc:α→List Value}{v:Value}{xs:List α}{ob:aj}(h:OwnSl k enc v xs ob):∃a c,v= .slice a xs.length c:=by
 rcases h with ⟨rfl,rfl,_⟩ | ⟨b,cap,cs,rfl,_⟩
 ·exact⟨_,_,rfl⟩
 ·exact⟨_,_,rfl⟩
inductive Tl (ob:aj):aj→(aj→aj)→Prop
 | all:Tl ob ob (fun ob'=>ob')
 | app (R:aj):Tl ob (ob++R) (fun ob'=>ob'++R)
 | skip (x:Nat×List Value) {L:aj} {F:aj→aj} (h:Tl ob L F):Tl ob (x::L) (fun ob'=>x::F ob')
 | new (L:aj) (h:ob=[]):Tl ob L (fun ob'=>L++ob')
 | take {x:Nat×List Value} {L R:aj} (h:Mv x L R) (e:ob=[x]):Tl ob L (fun ob'=>R++ob')
 | past (A:aj) {L:aj} {F:aj→aj} (h:Tl ob L F):Tl ob (A++L) (fun ob'=>A++F ob')
theorem InL.h1 {b:Nat}{cs:List Value}{x0:Nat×List Value}{L:aj}:InL b cs (x0::(b,cs)::L):=.there _ (.here _)
theorem Upd.h1 {b:Nat}{cs cs':List Value}{x0:Nat×List Value}{L:aj}:Upd b cs cs' (x0::(b,cs)::L) (x0::(b,cs')::L):=.there _ (.here _)
theorem Mv.h1 {x x0:Nat×List Value}{L:aj}:Mv x (x0::x::L) (x0::L):=.there _ (.here _)
theorem InL.h2 {b:Nat}{cs:List Value}{x0 x1:Nat×List Value}{L:aj}:InL b cs (x0::x1::(b,cs)::L):=.there _ (.there _ (.here _))
theorem Upd.h2 {b:Nat}{cs cs':List Value}{x0 x1:Nat×List Value}{L:aj}:Upd b cs cs' (x0::x1::(b,cs)::L) (x0::x1::(b,cs')::L):=.there _ (.there _ (.here _))
theorem Mv.h2 {x x0 x1:Nat×List Value}{L:aj}:Mv x (x0::x1::x::L) (x0::x1::L):=.there _ (.there _ (.here _))
theorem InL.h3 {b:Nat}{cs:List Value}{x0 x1 x2:Nat×List Value}{L:aj}:InL b cs (x0::x1::x2::(b,cs)::L):=.there _ (.there _ (.there _ (.here _)))
theorem Upd.h3 {b:Nat}{cs cs':List Value}{x0 x1 x2:Nat×List Value}{L:aj}:Upd b cs cs' (x0::x1::x2::(b,cs)::L) (x0::x1::x2::(b,cs')::L):=.there _ (.there _ (.there _ (.here _)))
theorem Mv.h3 {x x0 x1 x2:Nat×List Value}{L:aj}:Mv x (x0::x1::x2::x::L) (x0::x1::x2::L):=.there _ (.there _ (.there _ (.here _)))
theorem InL.h4 {b:Nat}{cs:List Value}{x0 x1 x2 x3:Nat×List Value}{L:aj}:InL b cs (x0::x1::x2::x3::(b,cs)::L):=.there _ (.there _ (.there _ (.there _ (.here _))))
theorem Upd.h4 {b:Nat}{cs cs':List Value}{x0 x1 x2 x3:Nat×List Value}{L:aj}:Upd b cs cs' (x0::x1::x2::x3::(b,cs)::L) (x0::x1::x2::x3::(b,cs')::L):=.there _ (.there _ (.there _ (.there _ (.here _))))
theorem Mv.h4 {x x0 x1 x2 x3:Nat×List Value}{L:aj}:Mv x (x0::x1::x2::x3::x::L) (x0::x1::x2::x3::L):=.there _ (.there _ (.there _ (.there _ (.here _))))
theorem InL.h5 {b:Nat}{cs:List Value}{x0 x1 x2 x3 x4:Nat×List Value}{L:aj}:InL b cs (x0::x1::x2::x3::x4::(b,cs)::L):=.there _ (.there _ (.there _ (.there _ (.there _ (.here _)))))
theorem Upd.h5 {b:Nat}{cs cs':List Value}{x0 x1 x2 x3 x4:Nat×List Value}{L:aj}:Upd b cs cs' (x0::x1::x2::x3::x4::(b,cs)::L) (x0::x1::x2::x3::x4::(b,cs')::L):=.there _ (.there _ (.there _ (.there _ (.there _ (.here _)))))
theorem Mv.h5 {x x0 x1 x2 x3 x4:Nat×List Value}{L:aj}:Mv x (x0::x1::x2::x3::x4::x::L) (x0::x1::x2::x3::x4::L):=.there _ (.there _ (.there _ (.there _ (.there _ (.here _)))))
theorem InL.h6 {b:Nat}{cs:List Value}{x0 x1 x2 x3 x4 x5:Nat×List Value}{L:aj}:InL b cs (x0::x1::x2::x3::x4::x5::(b,cs)::L):=.there _ (.there _ (.there _ (.there _ (.there _ (.there _ (.here _))))))
theorem Upd.h6 {b:Nat}{cs cs':List Value}{x0 x1 x2 x3 x4 x5:Nat×List Value}{L:aj}:Upd b cs cs' (x0::x1::x2::x3::x4::x5::(b,cs)::L) (x0::x1::x2::x3::x4::x5::(b,cs')::L):=.there _ (.there _ (.there _ (.there _ (.there _ (.there _ (.here _))))))
theorem Mv.h6 {x x0 x1 x2 x3 x4 x5:Nat×List Value}{L:aj}:Mv x (x0::x1::x2::x3::x4::x5::x::L) (x0::x1::x2::x3::x4::x5::L):=.there _ (.there _ (.there _ (.there _ (.there _ (.there _ (.here _))))))
theorem InL.h7 {b:Nat}{cs:List Value}{x0 x1 x2 x3 x4 x5 x6:Nat×List Value}{L:aj}:InL b cs (x0::x1::x2::x3::x4::x5::x6::(b,cs)::L):=.there _ (.there _ (.there _ (.there _ (.there _ (.there _ (.there _ (.here _)))))))
theorem Upd.h7 {b:Nat}{cs cs':List Value}{x0 x1 x2 x3 x4 x5 x6:Nat×List Value}{L:aj}:Upd b cs cs' (x0::x1::x2::x3::x4::x5::x6::(b,cs)::L) (x0::x1::x2::x3::x4::x5::x6::(b,cs')::L):=.there _ (.there _ (.there _ (.there _ (.there _ (.there _ (.there _ (.here _)))))))
theorem Mv.h7 {x x0 x1 x2 x3 x4 x5 x6:Nat×List Value}{L:aj}:Mv x (x0::x1::x2::x3::x4::x5::x6::x::L) (x0::x1::x2::x3::x4::x5::x6::L):=.there _ (.there _ (.there _ (.there _ (.there _ (.there _ (.there _ (.here _)))))))
theorem InL.h8 {b:Nat}{cs:List Value}{x0 x1 x2 x3 x4 x5 x6 x7:Nat×List Value}{L:aj}:InL b cs (x0::x1::x2::x3::x4::x5::x6::x7::(b,cs)::L):=.there _ (.there _ (.there _ (.there _ (.there _ (.there _ (.there _ (.there _ (.here _))))))))
theorem Upd.h8 {b:Nat}{cs cs':List Value}{x0 x1 x2 x3 x4 x5 x6 x7:Nat×List Value}{L:aj}:Upd b cs cs' (x0::x1::x2::x3::x4::x5::x6::x7::(b,cs)::L) (x0::x1::x2::x3::x4::x5::x6::x7::(b,cs')::L):=.there _ (.there _ (.there _ (.there _ (.there _ (.there _ (.there _ (.there _ (.here _))))))))
theorem Mv.h8 {x x0 x1 x2 x3 x4 x5 x6 x7:Nat×List Value}{L:aj}:Mv x (x0::x1::x2::x3::x4::x5::x6::x7::x::L) (x0::x1::x2::x3::x4::x5::x6::x7::L):=.there _ (.there _ (.there _ (.there _ (.there _ (.there _ (.there _ (.there _ (.here _))))))))
theorem InL.h9 {b:Nat}{cs:List Value}{x0 x1 x2 x3 x4 x5 x6 x7 x8:Nat×List Value}{L:aj}:InL b cs (x0::x1::x2::x3::x4::x5::x6::x7::x8::(b,cs)::L):=.there _ (.there _ (.there _ (.there _ (.there _ (.there _ (.there _ (.there _ (.there _ (.here _)))))))))
theorem Upd.h9 {b:Nat}{cs cs':List Value}{x0 x1 x2 x3 x4 x5 x6 x7 x8:Nat×List Value}{L:aj}:Upd b cs cs' (x0::x1::x2::x3::x4::x5::x6::x7::x8::(b,cs)::L) (x0::x1::x2::x3::x4::x5::x6::x7::x8::(b,cs')::L):=.there _ (.there _ (.there _ (.there _ (.there _ (.there _ (.there _ (.there _ (.there _ (.here _)))))))))
theorem Mv.h9 {x x0 x1 x2 x3 x4 x5 x6 x7 x8:Nat×List Value}{L:aj}:Mv x (x0::x1::x2::x3::x4::x5::x6::x7::x8::x::L) (x0::x1::x2::x3::x4::x5::x6::x7::x8::L):=.there _ (.there _ (.there _ (.there _ (.there _ (.there _ (.there _ (.there _ (.there _ (.here _)))))))))
theorem InL.h10 {b:Nat}{cs:List Value}{x0 x1 x2 x3 x4 x5 x6 x7 x8 x9:Nat×List Value}{L:aj}:InL b cs (x0::x1::x2::x3::x4::x5::x6::x7::x8::x9::(b,cs)::L):=.there _ (.there _ (.there _ (.there _ (.there _ (.there _ (.there _ (.there _ (.there _ (.there _ (.here _))))))))))
theorem Upd.h10 {b:Nat}{cs cs':List Value}{x0 x1 x2 x3 x4 x5 x6 x7 x8 x9:Nat×List Value}{L:aj}:Upd b cs cs' (x0::x1::x2::x3::x4::x5::x6::x7::x8::x9::(b,cs)::L) (x0::x1::x2::x3::x4::x5::x6::x7::x8::x9::(b,cs')::L):=.there _ (.there _ (.there _ (.there _ (.there _ (.there _ (.there _ (.there _ (.there _ (.there _ (.here _))))))))))
theorem Mv.h10 {x x0 x1 x2 x3 x4 x5 x6 x7 x8 x9:Nat×List Value}{L:aj}:Mv x (x0::x1::x2::x3::x4::x5::x6::x7::x8::x9::x::L) (x0::x1::x2::x3::x4::x5::x6::x7::x8::x9::L):=.there _ (.there _ (.there _ (.there _ (.there _ (.there _ (.there _ (.there _ (.there _ (.there _ (.here _))))))))))
theorem InL.h11 {b:Nat}{cs:List Value}{x0 x1 x2 x3 x4 x5 x6 x7 x8 x9 x10:Nat×List Value}{L:aj}:InL b cs (x0::x1::x2::x3::x4::x5::x6::x7::x8::x9::x10::(b,cs)::L):=.there _ (.there _ (.there _ (.there _ (.there _ (.there _ (.there _ (.there _ (.there _ (.there _ (.there _ (.here _)))))))))))
theorem Upd.h11 {b:Nat}{cs cs':List Value}{x0 x1 x2 x3 x4 x5 x6 x7 x8 x9 x10:Nat×List Value}{L:aj}:Upd b cs cs' (x0::x1::x2::x3::x4::x5::x6::x7::x8::x9::x10::(b,cs)::L) (x0::x1::x2::x3::x4::x5::x6::x7::x8::x9::x10::(b,cs')::L):=.there _ (.there _ (.there _ (.there _ (.there _ (.there _ (.there _ (.there _ (.there _ (.there _ (.there _ (.here _)))))))))))
theorem Mv.h11 {x x0 x1 x2 x3 x4 x5 x6 x7 x8 x9 x10:Nat×List Value}{L:aj}:Mv x (x0::x1::x2::x3::x4::x5::x6::x7::x8::x9::x10::x::L) (x0::x1::x2::x3::x4::x5::x6::x7::x8::x9::x10::L):=.there _ (.there _ (.there _ (.there _ (.there _ (.there _ (.there _ (.there _ (.there _ (.there _ (.there _ (.here _)))))))))))
theorem InL.h12 {b:Nat}{cs:List Value}{x0 x1 x2 x3 x4 x5 x6 x7 x8 x9 x10 x11:Nat×List Value}{L:aj}:InL b cs (x0::x1::x2::x3::x4::x5::x6::x7::x8::x9::x10::x11::(b,cs)::L):=.there _ (.there _ (.there _ (.there _ (.there _ (.there _ (.there _ (.there _ (.there _ (.there _ (.there _ (.there _ (.here _))))))))))))
theorem Upd.h12 {b:Nat}{cs cs':List Value}{x0 x1 x2 x3 x4 x5 x6 x7 x8 x9 x10 x11:Nat×List Value}{L:aj}:Upd b cs cs' (x0::x1::x2::x3::x4::x5::x6::x7::x8::x9::x10::x11::(b,cs)::L) (x0::x1::x2::x3::x4::x5::x6::x7::x8::x9::x10::x11::(b,cs')::L):=.there _ (.there _ (.there _ (.there _ (.there _ (.there _ (.there _ (.there _ (.there _ (.there _ (.there _ (.there _ (.here _))))))))))))
theorem Mv.h12 {x x0 x1 x2 x3 x4 x5 x6 x7 x8 x9 x10 x11:Nat×List Value}{L:aj}:Mv x (x0::x1::x2::x3::x4::x5::x6::x7::x8::x9::x10::x11::x::L) (x0::x1::x2::x3::x4::x5::x6::x7::x8::x9::x10::x11::L):=.there _ (.there _ (.there _ (.there _ (.there _ (.there _ (.there _ (.there _ (.there _ (.there _ (.there _ (.there _ (.here _))))))))))))
theorem InL.h13 {b:Nat}{cs:List Value}{x0 x1 x2 x3 x4 x5 x6 x7 x8 x9 x10 x11 x12:Nat×List Value}{L:aj}:InL b cs (x0::x1::x2::x3::x4::x5::x6::x7::x8::x9::x10::x11::x12::(b,cs)::L):=.there _ (.there _ (.there _ (.there _ (.there _ (.there _ (.there _ (.there _ (.there _ (.there _ (.there _ (.there _ (.there _ (.here _)))))))))))))
theorem Upd.h13 {b:Nat}{cs cs':List Value}{x0 x1 x2 x3 x4 x5 x6 x7 x8 x9 x10 x11 x12:Nat×List Value}{L:aj}:Upd b cs cs' (x0::x1::x2::x3::x4::x5::x6::x7::x8::x9::x10::x11::x12::(b,cs)::L) (x0::x1::x2::x3::x4::x5::x6::x7::x8::x9::x10::x11::x12::(b,cs')::L):=.there _ (.there _ (.there _ (.there _ (.there _ (.there _ (.there _ (.there _ (.there _ (.there _ (.there _ (.there _ (.there _ (.here _)))))))))))))
theorem Mv.h13 {x x0 x1 x2 x3 x4 x5 x6 x7 x8 x9 x10 x11 x12:Nat×List Value}{L:aj}:Mv x (x0::x1::x2::x3::x4::x5::x6::x7::x8::x9::x10::x11::x12::x::L) (x0::x1::x2::x3::x4::x5::x6::x7::x8::x9::x10::x11::x12::L):=.there _ (.there _ (.there _ (.there _ (.there _ (.there _ (.there _ (.there _ (.there _ (.there _ (.there _ (.there _ (.there _ (.here _)))))))))))))
theorem InL.h14 {b:Nat}{cs:List Value}{x0 x1 x2 x3 x4 x5 x6 x7 x8 x9 x10 x11 x12 x13:Nat×List Value}{L:aj}:InL b cs (x0::x1::x2::x3::x4::x5::x6::x7::x8::x9::x10::x11::x12::x13::(b,cs)::L):=.there _ (.there _ (.there _ (.there _ (.there _ (.there _ (.there _ (.there _ (.there _ (.there _ (.there _ (.there _ (.there _ (.there _ (.here _))))))))))))))
theorem Upd.h14 {b:Nat}{cs cs':List Value}{x0 x1 x2 x3 x4 x5 x6 x7 x8 x9 x10 x11 x12 x13:Nat×List Value}{L:aj}:Upd b cs cs' (x0::x1::x2::x3::x4::x5::x6::x7::x8::x9::x10::x11::x12::x13::(b,cs)::L) (x0::x1::x2::x3::x4::x5::x6::x7::x8::x9::x10::x11::x12::x13::(b,cs')::L):=.there _ (.there _ (.there _ (.there _ (.there _ (.there _ (.there _ (.there _ (.there _ (.there _ (.there _ (.there _ (.there _ (.there _ (.here _))))))))))))))
theorem Mv.h14 {x x0 x1 x2 x3 x4 x5 x6 x7 x8 x9 x10 x11 x12 x13:Nat×List Value}{L:aj}:Mv x (x0::x1::x2::x3::x4::x5::x6::x7::x8::x9::x10::x11::x12::x13::x::L) (x0::x1::x2::x3::x4::x5::x6::x7::x8::x9::x10::x11::x12::x13::L):=.there _ (.there _ (.there _ (.there _ (.there _ (.there _ (.there _ (.there _ (.there _ (.there _ (.there _ (.there _ (.there _ (.there _ (.here _))))))))))))))
theorem Tl.s2 {ob:aj}{x0 x1:Nat×List Value}{L:aj}{F:aj→aj}(h:Tl ob L F):Tl ob (x0::x1::L) (fun ob'=>x0::x1::F ob'):=.skip _ (.skip _ (h))
theorem Tl.s3 {ob:aj}{x0 x1 x2:Nat×List Value}{L:aj}{F:aj→aj}(h:Tl ob L F):Tl ob (x0::x1::x2::L) (fun ob'=>x0::x1::x2::F ob'):=.skip _ (.skip _ (.skip _ (h)))
theorem Tl.s4 {ob:aj}{x0 x1 x2 x3:Nat×List Value}{L:aj}{F:aj→aj}(h:Tl ob L F):Tl ob (x0::x1::x2::x3::L) (fun ob'=>x0::x1::x2::x3::F ob'):=.skip _ (.skip _ (.skip _ (.skip _ (h))))
theorem Tl.s5 {ob:aj}{x0 x1 x2 x3 x4:Nat×List Value}{L:aj}{F:aj→aj}(h:Tl ob L F):Tl ob (x0::x1::x2::x3::x4::L) (fun ob'=>x0::x1::x2::x3::x4::F ob'):=.skip _ (.skip _ (.skip _ (.skip _ (.skip _ (h)))))
theorem Tl.s6 {ob:aj}{x0 x1 x2 x3 x4 x5:Nat×List Value}{L:aj}{F:aj→aj}(h:Tl ob L F):Tl ob (x0::x1::x2::x3::x4::x5::L) (fun ob'=>x0::x1::x2::x3::x4::x5::F ob'):=.skip _ (.skip _ (.skip _ (.skip _ (.skip _ (.skip _ (h))))))
theorem Tl.s7 {ob:aj}{x0 x1 x2 x3 x4 x5 x6:Nat×List Value}{L:aj}{F:aj→aj}(h:Tl ob L F):Tl ob (x0::x1::x2::x3::x4::x5::x6::L) (fun ob'=>x0::x1::x2::x3::x4::x5::x6::F ob'):=.skip _ (.skip _ (.skip _ (.skip _ (.skip _ (.skip _ (.skip _ (h)))))))
theorem Tl.s8 {ob:aj}{x0 x1 x2 x3 x4 x5 x6 x7:Nat×List Value}{L:aj}{F:aj→aj}(h:Tl ob L F):Tl ob (x0::x1::x2::x3::x4::x5::x6::x7::L) (fun ob'=>x0::x1::x2::x3::x4::x5::x6::x7::F ob'):=.skip _ (.skip _ (.skip _ (.skip _ (.skip _ (.skip _ (.skip _ (.skip _ (h))))))))
theorem Tl.s9 {ob:aj}{x0 x1 x2 x3 x4 x5 x6 x7 x8:Nat×List Value}{L:aj}{F:aj→aj}(h:Tl ob L F):Tl ob (x0::x1::x2::x3::x4::x5::x6::x7::x8::L) (fun ob'=>x0::x1::x2::x3::x4::x5::x6::x7::x8::F ob'):=.skip _ (.skip _ (.skip _ (.skip _ (.skip _ (.skip _ (.skip _ (.skip _ (.skip _ (h)))))))))
theorem Tl.s10 {ob:aj}{x0 x1 x2 x3 x4 x5 x6 x7 x8 x9:Nat×List Value}{L:aj}{F:aj→aj}(h:Tl ob L F):Tl ob (x0::x1::x2::x3::x4::x5::x6::x7::x8::x9::L) (fun ob'=>x0::x1::x2::x3::x4::x5::x6::x7::x8::x9::F ob'):=.skip _ (.skip _ (.skip _ (.skip _ (.skip _ (.skip _ (.skip _ (.skip _ (.skip _ (.skip _ (h))))))))))
theorem Tl.s11 {ob:aj}{x0 x1 x2 x3 x4 x5 x6 x7 x8 x9 x10:Nat×List Value}{L:aj}{F:aj→aj}(h:Tl ob L F):Tl ob (x0::x1::x2::x3::x4::x5::x6::x7::x8::x9::x10::L) (fun ob'=>x0::x1::x2::x3::x4::x5::x6::x7::x8::x9::x10::F ob'):=.skip _ (.skip _ (.skip _ (.skip _ (.skip _ (.skip _ (.skip _ (.skip _ (.skip _ (.skip _ (.skip _ (h)))))))))))
theorem Tl.s12 {ob:aj}{x0 x1 x2 x3 x4 x5 x6 x7 x8 x9 x10 x11:Nat×List Value}{L:aj}{F:aj→aj}(h:Tl ob L F):Tl ob (x0::x1::x2::x3::x4::x5::x6::x7::x8::x9::x10::x11::L) (fun ob'=>x0::x1::x2::x3::x4::x5::x6::x7::x8::x9::x10::x11::F ob'):=.skip _ (.skip _ (.skip _ (.skip _ (.skip _ (.skip _ (.skip _ (.skip _ (.skip _ (.skip _ (.skip _ (.skip _ (h))))))))))))
theorem Tl.s13 {ob:aj}{x0 x1 x2 x3 x4 x5 x6 x7 x8 x9 x10 x11 x12:Nat×List Value}{L:aj}{F:aj→aj}(h:Tl ob L F):Tl ob (x0::x1::x2::x3::x4::x5::x6::x7::x8::x9::x10::x11::x12::L) (fun ob'=>x0::x1::x2::x3::x4::x5::x6::x7::x8::x9::x10::x11::x12::F ob'):=.skip _ (.skip _ (.skip _ (.skip _ (.skip _ (.skip _ (.skip _ (.skip _ (.skip _ (.skip _ (.skip _ (.skip _ (.skip _ (h)))))))))))))
theorem Tl.s14 {ob:aj}{x0 x1 x2 x3 x4 x5 x6 x7 x8 x9 x10 x11 x12 x13:Nat×List Value}{L:aj}{F:aj→aj}(h:Tl ob L F):Tl ob (x0::x1::x2::x3::x4::x5::x6::x7::x8::x9::x10::x11::x12::x13::L) (fun ob'=>x0::x1::x2::x3::x4::x5::x6::x7::x8::x9::x10::x11::x12::x13::F ob'):=.skip _ (.skip _ (.skip _ (.skip _ (.skip _ (.skip _ (.skip _ (.skip _ (.skip _ (.skip _ (.skip _ (.skip _ (.skip _ (.skip _ (h))))))))))))))
theorem Tl.s15 {ob:aj}{x0 x1 x2 x3 x4 x5 x6 x7 x8 x9 x10 x11 x12 x13 x14:Nat×List Value}{L:aj}{F:aj→aj}(h:Tl ob L F):Tl ob (x0::x1::x2::x3::x4::x5::x6::x7::x8::x9::x10::x11::x12::x13::x14::L) (fun ob'=>x0::x1::x2::x3::x4::x5::x6::x7::x8::x9::x10::x11::x12::x13::x14::F ob'):=.skip _ (.skip _ (.skip _ (.skip _ (.skip _ (.skip _ (.skip _ (.skip _ (.skip _ (.skip _ (.skip _ (.skip _ (.skip _ (.skip _ (.skip _ (h)))))))))))))))
theorem Tl.s16 {ob:aj}{x0 x1 x2 x3 x4 x5 x6 x7 x8 x9 x10 x11 x12 x13 x14 x15:Nat×List Value}{L:aj}{F:aj→aj}(h:Tl ob L F):Tl ob (x0::x1::x2::x3::x4::x5::x6::x7::x8::x9::x10::x11::x12::x13::x14::x15::L) (fun ob'=>x0::x1::x2::x3::x4::x5::x6::x7::x8::x9::x10::x11::x12::x13::x14::x15::F ob'):=.skip _ (.skip _ (.skip _ (.skip _ (.skip _ (.skip _ (.skip _ (.skip _ (.skip _ (.skip _ (.skip _ (.skip _ (.skip _ (.skip _ (.skip _ (.skip _ (h))))))))))))))))
theorem Tl.perm {ob L:aj}{F:aj→aj}(h:Tl ob L F):∃R,L.Perm (ob++R)∧∀ob',(F ob').Perm (ob'++R):=by
 induction h with
 | all=>exact⟨[],by simp,by simp⟩
 | app R=>exact⟨R,List.Perm.refl _,fun _=>List.Perm.refl _⟩
 | skip x _ ih=>
  obtain⟨R,h1,h2⟩:=ih
  exact⟨x::R,(h1.cons x).trans List.perm_middle.symm,fun ob'=>((h2 ob').cons x).trans List.perm_middle.symm⟩
 | new L h=>
  subst h
  exact⟨L,by simp,fun ob'=>List.perm_append_comm⟩
 | take h e=>
  subst e
  exact⟨_,h.perm,fun ob'=>List.perm_append_comm⟩
 | past A _ ih=>
  obtain⟨R,h1,h2⟩:=ih
  have key:∀(B:aj),(A++(B++R)).Perm (B++(A++R)):=fun B=>by
   rw [← List.append_assoc,← List.append_assoc];exact(List.perm_append_comm).append_right R
  exact⟨A++R,(h1.append_left A).trans (key _),fun ob'=>((h2 ob').append_left A).trans (key _)⟩
def Src {α:Type}(M:List Nat)(w0:World)(H0 H:Hp)(L:aj)(enc:α→List Value)(v:Value)(ys:List α):Prop:=
 ∃a cap,v= .slice a ys.length cap∧(ys≠[]→∃b o,a=some ⟨b,o,none⟩∧∀w,St M w0 H0 H L w→∀j u,(ys.flatMap enc)[j]? =some u→w.cell? ⟨b,o+j,none⟩=some u)
section
variable {P:Program}{n:Nat}{ops:Array Oper}{Ri:World→Prop}{Q:Exit→Act→World→Prop}{E:Env}{M:List Nat}{w0:World}{H0 H:Hp}{L:aj}{C:World→Prop}{rest:List Oper}{dst:Option Nat}{ty:TypeId}{pos:String}{aft:Array Edge}
theorem Src.sl {α:Type}{k:Nat}{enc:α→List Value}[he:Cells k enc]{v:Value}{ys:List α}(h:RdSl H k enc v ys):Src M w0 H0 H L enc v ys:=by
 obtain⟨a,cap,rfl⟩:=h.len
 refine⟨a,cap,rfl,fun hne=>?_⟩
 obtain⟨cap',hv⟩:=h.addr hne
 refine⟨_,_,(Value.slice.inj hv).1,fun w hw j u hu=>?_⟩
 obtain⟨x,hx,hux⟩:=iZ he.pos (fun x _=>he.len x) j u hu
 have:=hw.hp _ _ _ (h.get _ x hx _ u hux)
 rw [Nat.add_assoc,Nat.div_add_mod'] at this
 exact this
theorem Src.own {α:Type}{k:Nat}{enc:α→List Value}[he:Cells k enc]{b m cap:Nat}{cs:List Value}(ys:List α)(hL:InL b cs L)(hm:m=ys.length)(hc:cs.take (m * k)=ys.flatMap enc):Src M w0 H0 H L enc (.slice (some ⟨b,0,none⟩) m cap) ys:=by
 subst hm
 refine⟨_,_,rfl,fun _=>⟨_,_,rfl,fun w hw j u hu=>?_⟩⟩
 rw [Nat.zero_add,hw.cell hL j]
 rw [← hc,List.getElem?_take] at hu
 split at hu
 ·exact hu
 ·cases hu
theorem Src.none {α:Type}{enc:α→List Value}:Src M w0 H0 H L enc (.slice none 0 0) ([]:List α):=⟨_,_,rfl,fun h=>absurd rfl h⟩
theorem Src.og {α:Type}{k:Nat}{enc:α→List Value}[he:Cells k enc]{v:Value}{ys:List α}{ob:aj}{F:aj→aj}(hO:OwnSl k enc v ys ob)(hU:Tl ob L F):Src M w0 H0 H L enc v ys:=by
 rcases hO with ⟨rfl,rfl,rfl⟩ | ⟨b,cap,cs,rfl,rfl,hcl,htk,hle,hcm⟩
 ·exact Src.none
 ·obtain⟨R,hp1,_⟩:=hU.perm
  refine⟨_,_,rfl,fun _=>⟨_,_,rfl,fun w hw j u hu=>?_⟩⟩
  rw [Nat.zero_add,(hw.perm hp1).cell (.here _) j]
  rw [← htk,List.getElem?_take] at hu
  split at hu
  ·exact hu
  ·cases hu
theorem fa:∀(vs cs:List Value) (o:Nat),o+vs.length≤cs.length→bG cs o vs=cs.take o++(vs++cs.drop (o+vs.length))
 | [],cs,o,_=>by simp [bG]
 | v::vs,cs,o,h=>by
  simp only [bG]
  simp only [List.length_cons] at h
  rw [fa vs (cs.set o v) (o+1) (by simp;omega)]
  apply List.ext_getElem?
  intro i
  simp only [List.getElem?_append,List.getElem?_take,List.getElem?_drop,List.length_take,List.length_set,List.getElem?_set,List.getElem?_cons,List.length_cons,List.length_drop,List.length_append,List.cons_append]
  by_cases h1:i<o
  ·have:i<min (o+1) cs.length:=by omega
   have h2:i<min o cs.length:=by omega
   simp [this,h2,show ¬o=i by omega,h1,show i<o+1 by omega]
  ·by_cases h2:i=o
   ·subst h2
    have h3:i<min (i+1) cs.length:=by omega
    have h4:min i cs.length=i:=by omega
    simp [h3,h4,show i<cs.length by omega]
   ·have h3:¬i<min (o+1) cs.length:=by omega
    have h4:¬i<min o cs.length:=by omega
    simp only [h3,h4,if_false]
    rw [show min (o+1) cs.length=o+1 by omega,show min o cs.length=o by omega]
    by_cases h5:i - (o+1)<vs.length
    ·simp [h5,show ¬i - o=0 by omega,show i - o - 1=i - (o+1) by omega]
    ·simp [h5,show ¬i - o=0 by omega,show i - o - 1=i - (o+1) by omega,show ¬o=o+1+vs.length+(i - (o+1) - vs.length) by omega,show o+(vs.length+1)+(i - (o+1) - vs.length)=o+1+vs.length+(i - (o+1) - vs.length) by omega]
theorem uy {α : Type} {k e bs t : Nat} {z : List Value} {enc : α → List Value} [hc : Cells k enc] [hE : Elz P t e k bs z] {v v2 : Value} {xs ys : List α} {ob : aj} {F : aj → aj} {ty : TypeId}
  (hO : OwnSl k enc v xs ob) (hS : Src M w0 H0 H L enc v2 ys) (hb : (xs.length + ys.length) * bs ≤ 140737488355328) (hbs : 0 < bs) (hU : Tl ob L F) {w : World} (hw : St M w0 H0 H L w) :
  ∃ v' ob' w', OwnSl k enc v' (xs ++ ys) ob' ∧ St M w0 H0 H (F ob') w' ∧ (Builtin.append_ #[t, t] ty #[v, v2]).run P w = .ok v' w' := by
 obtain ⟨hu, i, zv, hi, h1, h2, h3, h4⟩ := hE.und
 have hk := hc.pos
 have hmax : xs.length + ys.length ≤ 140737488355328 := Nat.le_trans (Nat.le_mul_of_pos_right _ hbs) hb
 obtain ⟨R, hp1, hp2⟩ := hU.perm
 have hwR := hw.perm hp1
 obtain ⟨a, cap2, rfl, hsrc⟩ := hS
 have hzk : zv.cells.size = k := by rw [← hE.len, ← h4]; simp
 have hzl : ∀ m, (Builtin.zeroCells zv.cells m).toList.length = m * k := by intro m; rw [Array.length_toList, size_zeroCells, hzk]
 by_cases hys : ys = []
 ·-- nothing is appended
  subst hys
  have hfc : ∀ w, (Builtin.firstCells i.size 0 (.slice a 0 cap2)).run P w = .ok #[] w := by
   intro w
   cases a with
   | none => exact run_firstCells_none w _ _ _ _
   | some a => exact run_firstCells_some (P := P) w i.size 0 a 0 cap2 [] sq sq
  rcases hO with ⟨rfl, rfl, rfl⟩ | ⟨b, cap, cs, rfl, rfl, hcl, htk, hle, hcm⟩
  ·refine ⟨.slice none 0 0, [], w, .inl ⟨rfl, rfl, rfl⟩, hw.perm (hp1.trans (hp2 []).symm), ?_⟩
   simp [Builtin.append_, run_underlying hu, sizeOf, typeInfo, hi, Builtin.lenOf, hfc]
  ·refine ⟨.slice (some ⟨b, 0, none⟩) xs.length cap, [(b, cs)], w, .inr ⟨b, cap, cs, by simp, rfl, hcl, by simpa using htk, by simpa using hle, hcm⟩, hw.perm (hp1.trans (hp2 _).symm), ?_⟩
   simp [Builtin.append_, run_underlying hu, sizeOf, typeInfo, hi, Builtin.lenOf, hfc, hle, storeCells]
 ·obtain ⟨sb, so, rfl, hrd⟩ := hsrc hys
  have hrd' : ∀ j u, (ys.flatMap enc)[j]? = some u → w.cell? ((⟨sb, so, none⟩ : Addr).add j) = some u := fun j u hj => by rw [dO]; exact hrd w hw j u hj
  have hyl : (ys.flatMap enc).length = ys.length * k := gz (fun x _ => hc.len x)
  have hyl' : (ys.flatMap enc).length = ys.length * i.size := by rw [hyl, h1]
  have hypos : 0 < ys.length := List.length_pos_iff.2 hys
  have hone : ∀ u ∈ ys.flatMap enc, u.oneCell' = true := by
   intro u hu
   obtain ⟨x, _, hx⟩ := List.mem_flatMap.1 hu
   exact List.all_eq_true.1 (hc.one x) u hx
  have hgrown : ∀ (b' cap' : Nat) (ds : List Value), ds.length = cap' * k → ds.take ((xs ++ ys).length * k) = (xs ++ ys).flatMap enc → (xs ++ ys).length ≤ cap' → cap' ≤ 9223372036854775807 →
    OwnSl k enc (.slice (some ⟨b', 0, none⟩) (xs ++ ys).length cap') (xs ++ ys) [(b', ds)] := fun b' cap' ds e1 e2 e3 e4 => .inr ⟨b', cap', ds, rfl, rfl, e1, e2, e3, e4⟩
  have hxl : (xs.flatMap enc).length = xs.length * k := gz (fun x _ => hc.len x)
  have hfl : (xs ++ ys).flatMap enc = xs.flatMap enc ++ ys.flatMap enc := by simp
  have hll : (xs ++ ys).length * k = (xs.flatMap enc ++ ys.flatMap enc).length := by simp only [List.length_append]; rw [hxl, hyl, Nat.add_mul]
  rcases hO with ⟨rfl, rfl, rfl⟩ | ⟨b, cap, cs, rfl, rfl, hcl, htk, hle, hcm⟩
  ·-- the first block
   have hb0 : ys.length * i.bytes ≤ 281474976710656 := by rw [h2]; simp at hb; omega
   have hr := run_append_nil (P := P) w t ty e i zv hu hi h3 ⟨sb, so, none⟩ ys.length cap2 (ys.flatMap enc) hyl' hrd' hypos (by simp at hmax; omega) hb0
   have hge := grownCap_ge w ys.length 0 e
   have hcm := grownCap_le_maxLen w ys.length 0 e (by simp only [maxLen]; simp at hmax; omega)
   simp only [maxLen] at hcm
   have hst := (hwR.drew).alloc ((ys.flatMap enc) ++ (Builtin.zeroCells zv.cells (grownCap w ys.length 0 e - ys.length)).toList) e
   refine ⟨_, [(w.heap.size, (ys.flatMap enc) ++ (Builtin.zeroCells zv.cells (grownCap w ys.length 0 e - ys.length)).toList)], _, hgrown _ (grownCap w ys.length 0 e) _ ?_ ?_ ?_ ?_, hst.perm (hp2 [(_, _)]).symm, ?_⟩
   ·rw [List.length_append, hyl, hzl, ← Nat.add_mul]; congr 1; omega
   ·rw [hfl, hll]; simp
   ·simpa using hge
   ·omega
   ·rw [hr]
    congr 2
    simp
  ·by_cases hroom : xs.length + ys.length ≤ cap
   ·-- room
    have hfit : xs.length * k + 0 + (ys.flatMap enc).length ≤ cs.length := by rw [hyl, hcl, Nat.add_zero, ← Nat.add_mul]; exact Nat.mul_le_mul_right _ hroom
    obtain ⟨w', hr, hst⟩ := eI (P := P) (ys.flatMap enc) cs (xs.length * k) 0 _ _ w hwR (Upd.here _) hone hfit
    have hfc := run_firstCells_some (P := P) w i.size ys.length ⟨sb, so, none⟩ ys.length cap2 (ys.flatMap enc) hyl' hrd'
    refine ⟨_, [(b, bG cs (xs.length * k) (ys.flatMap enc))], w', hgrown b cap _ ?_ ?_ ?_ hcm, hst.perm (hp2 [(_, _)]).symm, ?_⟩
    ·rw [fa _ _ _ (by simpa using hfit)]
     simp only [List.length_append, List.length_take, List.length_drop]; omega
    ·rw [fa _ _ _ (by simpa using hfit), htk, hfl, hll, ← List.append_assoc, List.take_left']
     rfl
    ·simpa using hroom
    ·have hr' : (storeCells ⟨b, xs.length * i.size, none⟩ (ys.flatMap enc)).run P w = .ok () w' := by rw [h1]; exact hr
     simp [Builtin.append_, run_underlying hu, sizeOf, typeInfo, hi, Builtin.lenOf, hroom, hfc, Addr.add_lit, hr']
   ·-- a new block
    have holds : ∀ j u, (xs.flatMap enc)[j]? = some u → w.cell? ((⟨b, 0, none⟩ : Addr).add j) = some u := by
     intro j u hj
     rw [dO, Nat.zero_add, hwR.cell (.here _) j]
     rw [← htk, List.getElem?_take] at hj
     split at hj
     ·exact hj
     ·cases hj
    have hr := run_append_grow (P := P) w t ty e i zv hu hi h3 ⟨b, 0, none⟩ xs.length cap (xs.flatMap enc) (by rw [hxl, h1]) holds ⟨sb, so, none⟩ ys.length cap2 (ys.flatMap enc) hyl' hrd' om om (growslice_fits om (by rw [h2]; exact hb))
    have hge := grownCap_ge w (xs.length + ys.length) cap e
    have hcm2 := grownCap_le_maxLen w (xs.length + ys.length) cap e (by simp only [maxLen]; omega)
    simp only [maxLen] at hcm2
    have hst := (hwR.drop.drew).alloc ((xs.flatMap enc) ++ (ys.flatMap enc) ++ (Builtin.zeroCells zv.cells (grownCap w (xs.length + ys.length) cap e - (xs.length + ys.length))).toList) e
    refine ⟨_, [(w.heap.size, (xs.flatMap enc) ++ (ys.flatMap enc) ++ (Builtin.zeroCells zv.cells (grownCap w (xs.length + ys.length) cap e - (xs.length + ys.length))).toList)], _, hgrown _ (grownCap w (xs.length + ys.length) cap e) _ ?_ ?_ ?_ ?_, hst.perm (hp2 [(_, _)]).symm, ?_⟩
    ·rw [List.length_append, List.length_append, hxl, hyl, hzl, ← Nat.add_mul, ← Nat.add_mul]; congr 1; omega
    ·rw [hfl, hll]; exact List.take_left' rfl
    ·simpa using hge
    ·omega
    ·rw [hr]
     congr 2
     ·simp
     ·congr 1
      apply Array.ext'; simp
theorem TL.append {α:Type}{k e bs t:Nat}{z:List Value}{enc:α→List Value}[hc:Cells k enc]{c:Call}{x y:Operand}{v v2:Value}{xs ys:List α}{ob:aj}{F:aj→aj}
  (hcl:c={callee:=.builtin .append,args:= #[x,y],argTypes:= #[t,t]}) (hx:ev E x=some v) (hy:ev E y=some v2) (hO:OwnSl k enc v xs ob) (hS:Src M w0 H0 H L enc v2 ys)
  [hE:Elz P t e k bs z] (hb:(xs.length+ys.length) * bs≤140737488355328) (hbs:Nat.blt 0 bs=true) (hU:Tl ob L F) (hd:bR dst n=true)
  (h:∀a' c' ob',OwnSl k enc (.slice a' (xs++ys).length c') (xs++ys) ob'→TL P n ops Q rest (bN dst (.slice a' (xs++ys).length c') E) (St M w0 H0 H (F ob'))):
  TL P n ops Q ({dst:=dst,op:=.call c,type:=ty,pos:=pos,after:=aft,guard:=none}::rest) E (St M w0 H0 H L):=by
 intro a w he hw
 refine bW rfl (fun K hK=>?_)
 obtain⟨v',ob',w',h1,h2,h3⟩:=uy (P:=P) (t:=t) (ty:=ty) hO hS hb (by simpa [Nat.blt_eq] using hbs) hU hw
 have hrun:(execOp a.eval {dst:=dst,op:=.call c,type:=ty,pos:=pos,after:=aft,guard:=none}).run P w= .ok (.value v') w':=by
  subst hcl
  simp [execOp,resolve,invoke,builtin,he.eval hx,he.eval hy,h3]
 unfold Oper.wp
 rw [hrun]
 obtain⟨a',c',rfl⟩:=h1.form
 exact hK _ _ (h a' c' ob' h1 _ _ (he.put hd) h2)
theorem St.pubO {α:Type}{k:Nat}{enc:α→List Value}[hc:Cells k enc]{v:Value}{xs:List α}{ob:aj}{F:aj→aj}(hO:OwnSl k enc v xs ob)(hU:Tl ob L F)(hM:∀p∈ob,p.1∉M){w:World}(hw:St M w0 H0 H L w):
  ∃H',H.le H'∧RdSl H' k enc v xs∧St M w0 H0 H' (F []) w:=by
 obtain⟨R,hp1,hp2⟩:=hU.perm
 have hwR:=hw.perm hp1
 rcases hO with ⟨rfl,rfl,rfl⟩ | ⟨b,cap,cs,rfl,rfl,hcl,htk,hle,hcm⟩
 ·exact⟨H,Hp.le.refl H,⟨⟨_,_,rfl⟩,by simp,fun h=>absurd rfl h,fun i x hx=>by simp at hx,fun a n c _=>by simp⟩,hwR.perm (hp2 []).symm⟩
 ·have h1:=hwR.publish (hM (b,cs) sq)
  refine⟨H.add b cs,hwR.le_add,⟨⟨_,_,rfl⟩,by omega,fun _=>⟨_,rfl⟩,fun i x hx j u hu=>?_,fun a n c e=>by injection e with _ _ e;omega⟩,h1.perm (hp2 []).symm⟩
  have h2:=oi (k:=k) (fun x _=>hc.len x) i x hx j u hu
  rw [← htk,List.getElem?_take] at h2
  simp only [blk,off,Hp.add,if_true,Nat.zero_add]
  split at h2
  ·exact h2
  ·cases h2
end
section
variable {P:Program}{n:Nat}{ops:Array Oper}{Ri:World→Prop}{Q:Exit→Act→World→Prop}{E:Env}{M:List Nat}{w0:World}{H0 H:Hp}{L:aj}
theorem TL.pubO {α:Type}{k:Nat}{enc:α→List Value}[hc:Cells k enc]{v:Value}{xs:List α}{ob:aj}{F:aj→aj}{l:List Oper}(hO:OwnSl k enc v xs ob)(hU:Tl ob L F)(hM:∀p∈ob,p.1∉M)
  (h:∀H',H.le H'→RdSl H' k enc v xs→TL P n ops Q l E (St M w0 H0 H' (F []))):TL P n ops Q l E (St M w0 H0 H L):=by
 intro a w he hw
 obtain⟨H',h1,h2,h3⟩:=hw.pubO hO hU hM
 exact h H' h1 h2 a w he h3
theorem TX.pubO {α:Type}{k:Nat}{enc:α→List Value}[hc:Cells k enc]{v:Value}{xs:List α}{ob:aj}{F:aj→aj}{q:Act→World→Prop}(hO:OwnSl k enc v xs ob)(hU:Tl ob L F)(hM:∀p∈ob,p.1∉M)
  (h:∀H',H.le H'→RdSl H' k enc v xs→TX n q E (St M w0 H0 H' (F []))):TX n q E (St M w0 H0 H L):=by
 intro a w he hw
 obtain⟨H',h1,h2,h3⟩:=hw.pubO hO hU hM
 exact h H' h1 h2 a w he h3
theorem TC.pubO {α:Type}{k:Nat}{enc:α→List Value}[hc:Cells k enc]{v:Value}{xs:List α}{ob:aj}{F:aj→aj}{c:Code}(hO:OwnSl k enc v xs ob)(hU:Tl ob L F)(hM:∀p∈ob,p.1∉M)
  (h:∀H',H.le H'→RdSl H' k enc v xs→TC P n c Q E (St M w0 H0 H' (F []))):TC P n c Q E (St M w0 H0 H L):=by
 intro a w he hw
 obtain⟨H',h1,h2,h3⟩:=hw.pubO hO hU hM
 exact h H' h1 h2 a w he h3
theorem bj {α:Type}{c:Call}{t e k k':Nat}{enc:α→List Value}{x:Operand}{v:Value}{xs:List α}{ob:aj}{C:World→Prop}(hc:c={callee:=.builtin .len,args:= #[x],argTypes:= #[t]})(hx:ev E x=some v)(h:OwnSl k' enc v xs ob)[hel:El P t e k]:
  PR P E C (.call c) (.int .i64 xs.length):=by
 rcases h with ⟨rfl,rfl,_⟩ | ⟨b,cap,cs,rfl,_⟩
 ·exact dp hc hx
 ·exact dp hc hx
end
end Go.Sx
namespace Go.Sx
open Go
section
variable {P:Program}{n:Nat}{ops:Array Oper}{Q:Exit→Act→World→Prop}{E:Env}{M:List Nat}{w0:World}{H0 H:Hp}{L:aj}{C:World→Prop}{rest:List Oper}{dst:Option Nat}{ty:TypeId}{pos:String}{aft:Array Edge}
theorem aR {ι:Type}{c:Code}(V:ι→Value→aj→Hp→Env)(K:Env)(L:ι→Value→aj→Hp→World→Prop)(I:ι→Value→aj→Hp→Prop)(μ:ι→Nat)(i:ι)(v:Value)(ob:aj)(H1:Hp)(h0:Sub (V i v ob H1++K) E)(hi:I i v ob H1)(hC:∀w,C w→L i v ob H1 w)
  (round:∀i v ob H1,I i v ob H1→TC P n c (Exit.then (fun a w=>∃j v' ob' H',I j v' ob' H'∧EOk n (V j v' ob' H'++K) a∧L j v' ob' H' w∧μ j<μ i) Q) (V i v ob H1++K) (L i v ob H1)):TC P n (.loop c) Q E C:=
 TC.loop (ι:=ι×Value×aj×Hp) (V:=fun i=>V i.1 i.2.1 i.2.2.1 i.2.2.2) (K:=K) (L:=fun i=>L i.1 i.2.1 i.2.2.1 i.2.2.2) (I:=fun i=>I i.1 i.2.1 i.2.2.1 i.2.2.2) (μ:=fun i=>μ i.1) (i:=(i,v,ob,H1)) h0 hi hC
  (fun i hI a w he hw=>Code.wp_mono (fun e a' w' hq=>by
   cases e with
   | normal=>obtain⟨j,v',ob',H',h1,h2,h3,h4⟩:=hq;exact⟨(j,v',ob',H'),h1,h2,h3,h4⟩
   | exit id=>exact hq
   | goto l=>exact hq
   | ret=>exact hq
   | panic ch=>exact hq
   | outgrown=>exact hq) (round i.1 i.2.1 i.2.2.1 i.2.2.2 hI a w he hw))
theorem aE {ι:Type}{V:ι→Value→aj→Hp→Env}{L:ι→Value→aj→Hp→World→Prop}{I:ι→Value→aj→Hp→Prop}{μ:ι→Nat}{i:ι}{E0:Env}(j:ι)(v':Value)(ob':aj)(H':Hp)(hI:I j v' ob' H')(hs:Sub (V j v' ob' H'++E0) E)(hC:∀w,C w→L j v' ob' H' w)(hm:μ j<μ i):
  TX n (Exit.then (fun a w=>∃j v' ob' H',I j v' ob' H'∧EOk n (V j v' ob' H'++E0) a∧L j v' ob' H' w∧μ j<μ i) Q .normal) E C:=fun a w he hw=>⟨j,v',ob',H',hI,he.sub hs,hC w hw,hm⟩
theorem St.dropN {M:List Nat}{w0 w:World}{H0 H:Hp}{A L:aj}(h:St M w0 H0 H (A++L) w):St M w0 H0 H L w:=by
 induction A with
 | nil=>exact h
 | cons x A ih=>exact ih h.drop
end
end Go.Sx
namespace Go.Sx
open Go
def zN (w0:World)(H0:Hp)(Φ:Value→Hp→aj→Prop)(e:Ending)(w:World):Prop:=∃v H' ob,e= .returned v∧St [] w0 H0 H' ob w∧Φ v H' ob
def FnO (P:Program)(f:FuncId)(args:List Value)(H:Hp)(Φ:Value→Hp→aj→Prop):Prop:=∀w,St [] w H H [] w→Calls P f args.toArray w (zN w H Φ)
section
variable {P:Program}{n:Nat}{ops:Array Oper}{Q:Exit→Act→World→Prop}{E:Env}{M:List Nat}{w0:World}{H0 H:Hp}{L:aj}{C:World→Prop}{rest:List Oper}{dst:Option Nat}{op:Op}{ty:TypeId}{pos:String}{aft:Array Edge}
theorem St.pastO {w w':World}{H':Hp}{ob:aj}(h:St M w0 H0 H L w)(h':St [] w H H' ob w'):St M w0 H0 H' (L++ob) w':=by
 have hob:∀p∈ob,w.heap.size≤p.1:=fun p hp=>(h'.mine p hp).resolve_left sq
 have hL:∀p∈L,p.1<w.heap.size:=fun p hp=>h.lt hp
 refine⟨h'.os.trans h.os,h'.tape.trans h.tape,h'.output.trans h.output,Nat.le_trans h.size h'.size,fun b hb hM=>?_,h'.hp,fun p hp=>?_,fun p hp o=>?_,?_,fun p hp=>?_,h.fr.trans h'.fr h.size⟩
 ·exact(h'.old b (by have:=h.size;omega) sq).trans (h.old b hb hM)
 ·rcases List.mem_append.1 hp with hp | hp
  ·obtain⟨t,ht⟩:=h.own p hp
   exact⟨t,(h'.old _ (cr ht) sq).trans ht⟩
  ·exact h'.own p hp
 ·rcases List.mem_append.1 hp with hp | hp
  ·cases ho:H' p.1 o with
   | none=>rfl
   | some v=>
    have:=h'.fr.2 _ _ _ ho (h.sep p hp o)
    have:=hL p hp
    omega
  ·exact h'.sep p hp o
 ·rw [List.map_append,List.nodup_append]
  refine⟨h.nd,h'.nd,fun a ha b hb e=>?_⟩
  obtain⟨p,hp,rfl⟩:=List.mem_map.1 ha
  obtain⟨q,hq,rfl⟩:=List.mem_map.1 hb
  have:=hL p hp
  have:=hob q hq
  omega
 ·rcases List.mem_append.1 hp with hp | hp
  ·exact h.mine p hp
  ·exact .inr (Nat.le_trans h.size (hob p hp))
theorem cv {f:FuncId}{args:List Value}{Φ:Value→Hp→aj→Prop}(hE:cB P E op f args)(hF:FnO P f args H Φ)(hd:bR dst n=true)
  (h:∀v H' ob,H.le H'→Φ v H' ob→TL P n ops Q rest (bN dst v E) (St M w0 H0 H' (L++ob))):
  TL P n ops Q ({dst:=dst,op:=op,type:=ty,pos:=pos,after:=aft,guard:=none}::rest) E (St M w0 H0 H L):=by
 intro a w he hw
 refine bW rfl (fun K hK=>?_)
 unfold Oper.wp
 rw [hE n a w _ rfl he]
 refine(hF w (St.pass1 (L1:=[]) (L2:=L) hw)).mono ?_
 rintro e w' ⟨v,H',ob,rfl,hst,hΦ⟩
 exact hK _ _ (h v H' ob hst.fr.1 hΦ _ _ (he.put hd) (hw.pastO hst))
theorem gL {t k:TypeId}{x:Operand}{b o:Nat}{cs:List Value}(hx:ev E x=some (.pointer (some ⟨b,o,none⟩)))(hL:InL b cs L)[ht:Ty P t true k](hk:((cs.drop o).take k).length=k):
  PR P E (St M w0 H0 H L) (.load t x) (.agg ((cs.drop o).take k).toArray):=pr_ownP hx hL hk.symm rfl
theorem nL {α:Type}{t k k' j:Nat}{enc:α→List Value}{x:Operand}{v:Value}{l:List α}{i:Nat}{a:α}(h:RdSl H k enc v l)(ha:l[i]? =some a)(hx:ev E x=some (.pointer (some ⟨blk v,off v+i * k+j,none⟩)))[ht:Ty P t true k'](hk:(((enc a).drop j).take k').length=k'):
  PR P E (St M w0 H0 H L) (.load t x) (.agg (((enc a).drop j).take k').toArray):=pr_elP h ha hx hk rfl
theorem FnO.enter {f:FuncId}{args:List Value}{Φ:Value→Hp→aj→Prop}{fn:Func}{c:Code}
  (hf:P.funcs[f]? =some fn) (hn:fn.ntmps=n) (hb:fn.body=some c) (hl:Nat.ble args.length n=true)
  (h:∀w0,TC P n c (bodyPost P fn (zN w0 H Φ)) (hY 0 args) (St [] w0 H H [])):FnO P f args H Φ:=by
 intro w hw
 refine calls_of_wp hf hb (h w _ w ⟨?_,rfl,fun t v ht=>?_⟩ hw)
 ·have:=Nat.le_of_ble_eq_true hl
  simp [hn]
  omega
 ·have h1:=(iD args 0 t v ht).2
  simp only [Nat.sub_zero] at h1
  have h2:t<args.length:=(List.getElem?_eq_some_iff.1 h1).1
  rw [Array.getElem?_append_left (by simpa using h2)]
  simpa using h1
theorem dG {fn:Func}{Φ:Value→Hp→aj→Prop}{v:Value}{ob:aj}{F:aj→aj}{e:Exit}(he:e= .normal∨e= .ret)(hr:∀a w,EOk n E a→St [] w0 H0 H L w→(results fn a.tmps).run P w= .ok v w)(hU:Tl ob L F)(h:Φ v H ob):
  TX n (bodyPost P fn (zN w0 H0 Φ) e) E (St [] w0 H0 H L):=
 kM e he hr fun w hw=>by
  obtain⟨R,hp,_⟩:=hU.perm
  have h1:=hw.perm (hp.trans List.perm_append_comm)
  exact⟨v,H,ob,rfl,h1.dropN,h⟩
end
end Go.Sx
namespace Go.Sx
open Go
section
variable {P:Program}{n:Nat}{ops:Array Oper}{Ri:World→Prop}{Q:Exit→Act→World→Prop}{E:Env}{M:List Nat}{w0:World}{H0 H:Hp}{L:aj}{C:World→Prop}{rest:List Oper}{dst:Option Nat}{op:Op}{ty:TypeId}{pos:String}{aft:Array Edge}
theorem TL.gd {j s:Nat}{b:Bool}(hj:eA ops j=some s)(hb:lk E s=some (.bool b))(h:TL P n ops Q ({dst:=dst,op:=op,type:=ty,pos:=pos,after:=aft,guard:=none}::rest) E C):
  TL P n ops Q ({dst:=dst,op:=op,type:=ty,pos:=pos,after:=aft,guard:=some (j,b)}::rest) E C:=by
 intro a w he hw
 have h1:=h a w he hw
 have hy:=cS he hj hb
 simp only [wpW] at h1 ⊢
 simp only [Region.wanted,hy,BEq.rfl,if_true] at h1 ⊢
 exact h1
theorem ux {t e k bs:Nat}{z ds:List Value}{len:Nat}{parts:Array (Nat×Operand)}{vs:List (Nat×Value)}(hv:f6 E parts.toList=some vs)[he:Elz P t e k bs z](hlen:Nat.ble (len * k) 16777216=true)
  (hf:mb (fun i=>some (i * k,k)) (fP len z) vs=some ds) {a:Act} {w:World} (hE:EOk n E a):
  (execOp a.eval {dst:=dst,op:=.buildSlice t len parts,type:=ty,pos:=pos,after:=aft,guard:=none}).run P w= .ok (.value (.slice (some ⟨w.heap.size,0,none⟩) len len)) (w.alloc (.cells ds.toArray e)):=by
 obtain⟨hu,i,v,hi,h1,h2,h3,h4⟩:=he.und
 have hk:=he.len
 have hl:=Nat.le_of_ble_eq_true hlen
 have hparts:(parts.map fun(x:Nat×Operand)=>(x.1,a.eval x.2)).toList=vs:=by
  rw [Array.toList_map];exact hE.parts hv
 have hkz:v.cells.size=k:=by rw [← hk,← h4];simp
 have hm:madeCells v.cells (len * k)=(fP len z).toArray:=by
  apply Array.ext'
  rw [← hkz,fS,h4]
 have hfill:Instr.fill (fun i=>some (i * k,k)) (madeCells v.cells (len * k)) vs=some ds.toArray:=mC _ vs _ ds (by rw [hm];exact hf)
 have hsz:(sizeOf e).run P w= .ok k w:=by simp [sizeOf,typeInfo,hi,h1]
 have hz0:(zeroValue e).run P w= .ok v w:=by simp [zeroValue,typeInfo,hi,h3]
 have hn:¬len * k>2 ^ 24:=by omega
 have hfill0:=hfill
 unfold madeCells at hfill
 by_cases h0:len * k=0
 ·have hfill':Instr.fill (fun i=>some (i * k,k)) #[] vs=some ds.toArray:=by
   rw [h0,Array.range_zero'] at hfill
   simpa using hfill
  have h0':len=0∨k=0:=Nat.mul_eq_zero.1 h0
  simp [execOp,Instr.buildSlice,run_underlying hu,hsz,h0,h0',hE.parts hv,hfill',newRow,Array.range_zero']
 ·simp [execOp,Instr.buildSlice,run_underlying hu,hsz,h0,hz0,hn,hE.parts hv,hfill,newRow]
theorem aA {rest:List (Nat×Oper)}{t e k bs:Nat}{z ds:List Value}{len:Nat}{parts:Array (Nat×Operand)}{vs:List (Nat×Value)}(hv:f6 E parts.toList=some vs)[he:Elz P t e k bs z](hlen:Nat.ble (len * k) 16777216=true)
  (hf:mb (fun i=>some (i * k,k)) (fP len z) vs=some ds) (hd:bR dst n=true)
  (h:∀b,TF P n ops Ri Q rest (bN dst (.slice (some ⟨b,0,none⟩) len len) E) (St M w0 H0 H ((b,ds)::L))):
  TF P n ops Ri Q ((3,{dst:=dst,op:=.buildSlice t len parts,type:=ty,pos:=pos,after:=aft,guard:=none})::rest) E (St M w0 H0 H L):=by
 refine TF.ext rfl fun a w hE hw=>?_
 unfold Oper.wp
 rw [ux hv hlen hf hE]
 exact⟨Ext.alloc _ _,h _ _ _ (hE.put hd) (hw.alloc ds e)⟩
end
end Go.Sx
namespace Go.Sx
open Go
def qq (K:List Nat)(w0:World)(H0:Hp)(Φ:Value→Hp→aj→Prop)(e:Ending)(w:World):Prop:=∃v H' L',e= .returned v∧St K w0 H0 H' L' w∧Φ v H' L'
def FnX (P:Program)(f:FuncId)(args:List Value)(H:Hp)(L1:aj)(Φ:Value→Hp→aj→Prop):Prop:=∀w,St (keys L1) w H H L1 w→Calls P f args.toArray w (qq (keys L1) w H Φ)
section
variable {P:Program}{n:Nat}{ops:Array Oper}{Q:Exit→Act→World→Prop}{E:Env}{M:List Nat}{w0:World}{H0 H:Hp}{L:aj}{C:World→Prop}{rest:List Oper}{dst:Option Nat}{op:Op}{ty:TypeId}{pos:String}{aft:Array Edge}
theorem St.pastX {L1 L1' L2:aj}{w w':World}{H':Hp}(h:St M w0 H0 H (L1++L2) w)(h':St (keys L1) w H H' L1' w'):St M w0 H0 H' (L1'++L2) w':=by
 have hnd:=h.nd
 rw [List.map_append,List.nodup_append] at hnd
 have hmine:∀p∈L1',p.1∈M∨w0.heap.size≤p.1:=fun p hp=>by
  rcases h'.mine p hp with hm | hm
  ·obtain⟨q,hq,he⟩:=List.mem_map.1 hm
   have:=h.mine q (List.mem_append_left _ hq)
   rwa [he] at this
  ·have:=h.size;right;omega
 have hL2:∀p∈L2,p.1<w.heap.size:=fun p hp=>h.lt (List.mem_append_right _ hp)
 have hL2k:∀p∈L2,p.1∉keys L1:=fun p hp hm=>hnd.2.2 _ hm _ (List.mem_map.2 ⟨p,hp,rfl⟩) rfl
 refine⟨h'.os.trans h.os,h'.tape.trans h.tape,h'.output.trans h.output,Nat.le_trans h.size h'.size,fun b hb hM=>?_,h'.hp,fun p hp=>?_,fun p hp o=>?_,?_,fun p hp=>?_,h.fr.trans h'.fr h.size⟩
 ·have hnk:b∉keys L1:=by
   intro hm
   obtain⟨p,hp,rfl⟩:=List.mem_map.1 hm
   rcases h.mine p (List.mem_append_left _ hp) with hx | hx
   ·exact hM hx
   ·omega
  exact(h'.old b (by have:=h.size;omega) hnk).trans (h.old b hb hM)
 ·rcases List.mem_append.1 hp with hp | hp
  ·exact h'.own p hp
  ·obtain⟨t,ht⟩:=h.own p (List.mem_append_right _ hp)
   exact⟨t,(h'.old _ (cr ht) (hL2k p hp)).trans ht⟩
 ·rcases List.mem_append.1 hp with hp | hp
  ·exact h'.sep p hp o
  ·cases ho:H' p.1 o with
   | none=>rfl
   | some v=>
    have h1:=h'.fr.2 _ _ _ ho (h.sep p (List.mem_append_right _ hp) o)
    have h2:=hL2 p hp
    omega
 ·rw [List.map_append,List.nodup_append]
  refine⟨h'.nd,hnd.2.1,fun a ha b hb e=>?_⟩
  obtain⟨p,hp,rfl⟩:=List.mem_map.1 ha
  obtain⟨q,hq,rfl⟩:=List.mem_map.1 hb
  rcases h'.mine p hp with hm | hm
  ·exact hL2k q hq (e▸hm)
  ·have:=hL2 q hq;omega
 ·rcases List.mem_append.1 hp with hp | hp
  ·exact hmine p hp
  ·exact h.mine p (List.mem_append_right _ hp)
theorem di {f:FuncId}{args:List Value}{L1 L2:aj}{Φ:Value→Hp→aj→Prop}(hE:cB P E op f args)(hF:FnX P f args H L1 Φ)(hd:bR dst n=true)
  (h:∀v H' L1',H.le H'→Φ v H' L1'→TL P n ops Q rest (bN dst v E) (St M w0 H0 H' (L1'++L2))):
  TL P n ops Q ({dst:=dst,op:=op,type:=ty,pos:=pos,after:=aft,guard:=none}::rest) E (St M w0 H0 H (L1++L2)):=by
 intro a w he hw
 refine bW rfl (fun K hK=>?_)
 unfold Oper.wp
 rw [hE n a w _ rfl he]
 refine(hF w hw.pass1).mono ?_
 rintro e w' ⟨v,H',L1',rfl,hst,hΦ⟩
 exact hK _ _ (h v H' L1' hst.fr.1 hΦ _ _ (he.put hd) (hw.pastX hst))
theorem eV {f:FuncId}{args:List Value}{L1:aj}{Φ:Value→Hp→aj→Prop}(hE:cB P E op f args)(hF:FnX P f args H L1 Φ)(hd:bR dst n=true)
  (h:∀v H' L1',H.le H'→Φ v H' L1'→TL P n ops Q rest (bN dst v E) (St M w0 H0 H' L1')):
  TL P n ops Q ({dst:=dst,op:=op,type:=ty,pos:=pos,after:=aft,guard:=none}::rest) E (St M w0 H0 H L1):=by
 have:=di (M:=M) (w0:=w0) (H0:=H0) (ops:=ops) (Q:=Q) (rest:=rest) (ty:=ty) (pos:=pos) (aft:=aft) (L2:=[]) hE hF hd (fun v H' L1' h1 h2=>by rw [List.append_nil];exact h v H' L1' h1 h2)
 rwa [List.append_nil] at this
theorem FnX.mono {f:FuncId}{args:List Value}{L1:aj}{Φ Φ':Value→Hp→aj→Prop}(h:FnX P f args H L1 Φ)(hi:∀v H' L',Φ v H' L'→Φ' v H' L'):FnX P f args H L1 Φ':=fun w hw=>(h w hw).mono (by
 rintro e w' ⟨v,H',L',rfl,h1,h2⟩
 exact⟨v,H',L',rfl,h1,hi _ _ _ h2⟩)
theorem FnX.enter {f:FuncId}{args:List Value}{L1:aj}{Φ:Value→Hp→aj→Prop}{fn:Func}{c:Code}
  (hf:P.funcs[f]? =some fn) (hn:fn.ntmps=n) (hb:fn.body=some c) (hl:Nat.ble args.length n=true)
  (h:∀w0,TC P n c (bodyPost P fn (qq (keys L1) w0 H Φ)) (hY 0 args) (St (keys L1) w0 H H L1)):FnX P f args H L1 Φ:=by
 intro w hw
 refine calls_of_wp hf hb (h w _ w ⟨?_,rfl,fun t v ht=>?_⟩ hw)
 ·have:=Nat.le_of_ble_eq_true hl
  simp [hn]
  omega
 ·have h1:=(iD args 0 t v ht).2
  simp only [Nat.sub_zero] at h1
  have h2:t<args.length:=(List.getElem?_eq_some_iff.1 h1).1
  rw [Array.getElem?_append_left (by simpa using h2)]
  simpa using h1
theorem aO {fn:Func}{K:List Nat}{Φ:Value→Hp→aj→Prop}{v:Value}{L1:aj}{e:Exit}(he:e= .normal∨e= .ret)(hr:∀a w,EOk n E a→St K w0 H0 H L w→(results fn a.tmps).run P w= .ok v w)
  (hL:∀w,St K w0 H0 H L w→St K w0 H0 H L1 w) (h:Φ v H L1):TX n (bodyPost P fn (qq K w0 H0 Φ) e) E (St K w0 H0 H L):=
 kM e he hr fun w hw=>⟨v,H,L1,rfl,hL w hw,h⟩
end
end Go.Sx
namespace Go.Sx
open Go
section
variable {P:Program}{n:Nat}{ops:Array Oper}{Q:Exit→Act→World→Prop}{E:Env}{M:List Nat}{w0:World}{H0 H:Hp}{L:aj}{C:World→Prop}{rest:List Oper}{dst:Option Nat}{op:Op}{ty:TypeId}{pos:String}{aft:Array Edge}
theorem El.elem {t e k:Nat}(h:El P t e k):P.underlying t=some (.slice (P.elem t))∧(∀w,(sizeOf (P.elem t)).run P w= .ok k w):=by
 obtain⟨hu,inf,hi,hs⟩:=h.und
 have he:P.elem t=e:=by simp [Program.elem,hu]
 rw [he]
 exact⟨hu,fun w=>by simp [sizeOf,typeInfo,hi,hs]⟩
theorem p4 {t e k:Nat}{x y:Operand}{a:Option Addr}{m c:Nat}{kd:IntKind}{h:Int}(hx:ev E x=some (.slice a m c))(hy:ev E y=some (.int kd h))[hel:El P t e k](h0:0≤h)(h1:h≤c):
  PR P E C (.slice t x none (some y) none) (sliced a 0 h.toNat c k):=by
 intro n ac w o ho he hw
 unfold execOp
 rw [ho]
 obtain⟨e1,e2⟩:=hel.elem
 simp [he.eval hx,he.eval hy,run_sliceAt_slice (P:=P) w t _ _ _ _ e1,run_slice_h (P:=P) w t a m c e1 kd h h0 h1,e2,Result.andThen]
theorem wZ {t e k:Nat}{x y:Operand}{a:Option Addr}{m c:Nat}{kd:IntKind}{h:Int}(hx:ev E x=some (.slice a m c))(hy:ev E y=some (.int kd h))[hel:El P t e k](h0:0≤h)(h1:h≤m):
  PR P E C (.slice t x (some y) none none) (sliced a h.toNat m c k):=by
 intro n ac w o ho he hw
 unfold execOp
 rw [ho]
 obtain⟨e1,e2⟩:=hel.elem
 simp [he.eval hx,he.eval hy,run_sliceAt_slice (P:=P) w t _ _ _ _ e1,run_slice_l (P:=P) w t a m c e1 kd h h0 h1,e2,Result.andThen]
theorem RdSl.sliced {α:Type}{k:Nat}{enc:α→List Value}{a:Option Addr}{m c:Nat}{l:List α}{i j:Nat}(h:RdSl H k enc (.slice a m c) l)(hij:i≤j)(hj:j≤l.length):RdSl H k enc (Go.sliced a i j c k) ((l.take j).drop i):=by
 have hc:=h.room a m c rfl
 have hlen:((l.take j).drop i).length=j - i:=by simp;omega
 have hmax:=h.max
 by_cases he:i=j
 ·subst he
  have:(l.take i).drop i=[]:=List.drop_eq_nil_of_le (by simp;omega)
  rw [this]
  refine⟨⟨(if c=i then a else a.map (·.add (i * k))),c - i,by simp [Go.sliced]⟩,by simp,fun h=>absurd rfl h,fun i x hx=>by simp at hx,fun a n c _=>by simp⟩
 ·have hne:l≠[]:=by intro e;subst e;simp at hj;omega
  obtain⟨cap,e⟩:=h.addr hne
  injection e with e1 e2 e3
  subst e3
  have hci:¬c=i:=by omega
  have hs:Go.sliced a i j c k= .slice (some ⟨blk (.slice a m c),off (.slice a m c)+i * k,none⟩) (j - i) (c - i):=by
   unfold Go.sliced
   rw [if_neg hci]
   generalize blk (.slice a m c)=B at *
   generalize off (.slice a m c)=O at *
   subst e1
   simp [Addr.add]
  refine⟨⟨_,_,by rw [hs,hlen]⟩,by omega,fun _=>⟨_,by rw [hs,hlen];rfl⟩,fun q x hx u v hv=>?_,fun a' n' c' e'=>?_⟩
  ·rw [List.getElem?_drop,List.getElem?_take] at hx
   split at hx
   ·have:=h.get (i+q) x hx u v hv
    rw [hs]
    show H (blk (.slice a m c)) (off (.slice a m c)+i * k+q * k+u)=some v
    rw [Nat.add_mul] at this
    rw [Nat.add_assoc (off _)];exact this
   ·cases hx
  ·rw [hs] at e'
   injection e' with _ _ e'
   omega
theorem pr_strH {t:TypeId}{x z:Operand}{l:List UInt8}{k2:IntKind}{j:Int}(hx:ev E x=some (gs l))(hz:ev E z=some (.int k2 j))[hu:Und P t .string](h1:0≤j)(h2:j≤l.length):
  PR P E C (.slice t x none (some z) none) (gs (l.take j.toNat)):=by
 intro n ac w o ho he hw
 unfold execOp
 rw [ho]
 have hsz:j≤(ByteArray.mk l.toArray).size:=by simpa [ByteArray.size] using h2
 have e:=run_slice_string_h (P:=P) w t ⟨l.toArray⟩ hu.out k2 j h1 hsz
 simp [he.eval hx,he.eval hz,gs,run_sliceAt_string (P:=P) w t _ _ _ _ hu.out,e,ByteArray.extract_mk]
theorem pr_strL {t:TypeId}{x y:Operand}{l:List UInt8}{k1:IntKind}{i:Int}(hx:ev E x=some (gs l))(hy:ev E y=some (.int k1 i))[hu:Und P t .string](h0:0≤i)(h2:i≤l.length):
  PR P E C (.slice t x (some y) none none) (gs (l.drop i.toNat)):=by
 intro n ac w o ho he hw
 unfold execOp
 rw [ho]
 have hsz:i≤(ByteArray.mk l.toArray).size:=by simpa [ByteArray.size] using h2
 have e:=run_slice_string_l (P:=P) w t ⟨l.toArray⟩ hu.out k1 i h0 hsz
 have hs2:(ByteArray.mk l.toArray).size=l.length:=by simp [ByteArray.size]
 simp [he.eval hx,he.eval hy,gs,run_sliceAt_string (P:=P) w t _ _ _ _ hu.out,e,ByteArray.extract_mk,hs2]
 exact List.take_of_length_le sq
end
end Go.Sx
namespace Go.Sx
open Go
def U8.cells (c:UInt8):List Value:=[.int .u8 (c.toNat:Int)]
instance :Cells 1 U8.cells:=⟨fun _=>rfl,by decide,fun _=>rfl⟩
theorem wt:∀s:List UInt8,s.flatMap U8.cells=s.map fun b=>Value.int .u8 b.toNat
 | []=>rfl
 | c::s=>by simp [U8.cells,wt s]
section
variable {P:Program}{n:Nat}{ops:Array Oper}{Q:Exit→Act→World→Prop}{E:Env}{M:List Nat}{w0:World}{H0 H:Hp}{L:aj}{C:World→Prop}{rest:List Oper}{dst:Option Nat}{op:Op}{ty:TypeId}{pos:String}{aft:Array Edge}
theorem oh:∀(l:List UInt8) (s:ByteArray),(l.map fun b=>(b.toNat:Int)).foldl (fun r n=>r.push (UInt8.ofNat n.toNat)) s=s++⟨l.toArray⟩
 | [],s=>by
  apply ByteArray.ext
  simp
 | c::l,s=>by
  simp only [List.map_cons,List.foldl_cons]
  rw [oh l]
  apply ByteArray.ext
  apply Array.ext'
  simp
theorem ti {s t e k bs:Nat}{z:List Value}{x:Operand}{v:Value}{xs:List UInt8}{ob:aj}{F:aj→aj}(hx:ev E x=some v)(hO:OwnSl 1 U8.cells v xs ob)(hU:Tl ob L F)[hE:Elz P s e k bs z][he8:Und P e (.int .u8)][ht:Und P t .string]:
  PR P E (St M w0 H0 H L) (.convert s t x) (gs xs):=by
 intro n ac w o ho he hw
 unfold execOp
 rw [ho]
 obtain⟨hu,_⟩:=hE.und
 simp only [he.eval hx]
 obtain⟨R,hp1,_⟩:=hU.perm
 have hwR:=hw.perm hp1
 rcases hO with ⟨rfl,rfl,rfl⟩ | ⟨b,cap,cs,rfl,rfl,hcl,htk,hle,hcm⟩
 ·have h:=run_convert_bytes_string (P:=P) w s t e none 0 0 hu he8.out ht.out
  have h2:(Conv.bytesToString (.slice none 0 0)).run P w= .ok (gs []) w:=by simp [Conv.bytesToString,gs];rfl
  simp [h,h2]
 ·have h:=run_convert_bytes_string (P:=P) w s t e (some ⟨b,0,none⟩) xs.length cap hu he8.out ht.out
  have hld:(loadCells ⟨b,0,none⟩ xs.length).run P w= .ok ((xs.map fun b=>(b.toNat:Int)).map (Value.int .u8)).toArray w:=by
   have hlen:xs.length=((xs.map fun b=>(b.toNat:Int)).map (Value.int .u8)).length:=by simp
   rw [hlen]
   refine run_loadCells_list (P:=P) w ⟨b,0,none⟩ _ (fun j v hj=>?_)
   rw [dO,Nat.zero_add,hwR.cell (.here _) j]
   have hj2:(xs.flatMap U8.cells)[j]? =some v:=by rw [wt];simpa using hj
   rw [← htk,List.getElem?_take] at hj2
   split at hj2
   ·exact hj2
   ·cases hj2
  have h2:=run_bytesToString (P:=P) w ⟨b,0,none⟩ xs.length cap _ hld
  rw [oh] at h2
  have h3:(ByteArray.empty++⟨xs.toArray⟩:ByteArray)=⟨xs.toArray⟩:=by
   apply ByteArray.ext;simp
  rw [h3] at h2
  simp [h,h2,gs]
def ogb (ob:aj):Nat:=(ob.head?.map (·.1)).getD 0
theorem bP {α:Type}{t e k:Nat}{enc:α→List Value}{x y:Operand}{v:Value}{xs:List α}{ob:aj}{kd:IntKind}{i:Int}(hx:ev E x=some v)(hy:ev E y=some (.int kd i))(hO:OwnSl k enc v xs ob)[hel:El P t e k](h0:0≤i)(h1:i<xs.length):
  PR P E C (.indexAddr t x y) (.pointer (some ⟨ogb ob,i.toNat * k,none⟩)):=by
 rcases hO with ⟨rfl,rfl,rfl⟩ | ⟨b,cap,cs,rfl,rfl,hcl,htk,hle,hcm⟩
 ·simp at h1;omega
 ·have:=fe (P:=P) (E:=E) (C:=C) (t:=t) (e:=e) (k:=k) hx hy h0 h1
  rw [Nat.zero_add] at this
  exact this
theorem og_cell {α:Type}{k:Nat}{enc:α→List Value}[hc:Cells k enc]{v:Value}{xs:List α}{ob:aj}{F:aj→aj}{i:Nat}{y:α}(hO:OwnSl k enc v xs ob)(hU:Tl ob L F)(hi:xs[i]? =some y){w:World}(hw:St M w0 H0 H L w)(j:Nat)(u:Value)(hu:(enc y)[j]? =some u):
  w.cell? ⟨ogb ob,i * k+j,none⟩=some u:=by
 obtain⟨R,hp1,_⟩:=hU.perm
 have hwR:=hw.perm hp1
 rcases hO with ⟨rfl,rfl,rfl⟩ | ⟨b,cap,cs,rfl,rfl,hcl,htk,hle,hcm⟩
 ·simp at hi
 ·have h2:=oi (k:=k) (fun x _=>hc.len x) i y hi j u hu
  rw [← htk,List.getElem?_take] at h2
  split at h2
  ·show w.cell? ⟨b,_,none⟩=_
   rw [hwR.cell (.here _)];exact h2
  ·cases h2
theorem dU {α:Type}{t k k' j:Nat}{enc:α→List Value}[hc:Cells k enc]{x:Operand}{v u:Value}{xs:List α}{ob:aj}{F:aj→aj}{i:Nat}{y:α}(hx:ev E x=some (.pointer (some ⟨ogb ob,i * k+j,none⟩)))(hO:OwnSl k enc v xs ob)(hU:Tl ob L F)(hi:xs[i]? =some y)(hj:(enc y)[j]? =some u)[ht:Ty P t false k']:
  PR P E (St M w0 H0 H L) (.load t x) u:=iS hx fun w hw=>fp ht (og_cell hO hU hi hw j u hj)
end
end Go.Sx
namespace Go.Sx
open Go
section
variable {P:Program}{n:Nat}{ops:Array Oper}{Q:Exit→Act→World→Prop}{E:Env}{M:List Nat}{w0:World}{H0 H:Hp}{L:aj}{C:World→Prop}
end
end Go.Sx
namespace Go.Sx
open Go
class Firm (G:World→Prop):Prop where
 ext:∀{w w':World},Ext w w'→G w→G w'
section
variable {G:World→Prop}{P:Program}{n:Nat}{ops:Array Oper}{Ri:World→Prop}{Q:Exit→Act→World→Prop}{E:Env}{w0:World}{H0 H:Hp}{L:aj}{C:World→Prop}{rest:List Oper}{dst:Option Nat}{op:Op}{ty:TypeId}{pos:String}{aft:Array Edge}
variable [hF0:Firm G]
omit hF0
theorem FnS.ext {f:FuncId}{args:List Value}{v:Value}(h:∀w,St [] w H H [] w→Calls P f args.toArray w (fun e w'=>e= .returned v∧Ext w w')):FnS P f args H v:=by
 intro w hw
 refine(h w hw).mono ?_
 rintro e w' ⟨rfl,hx⟩
 exact⟨v,H,[],rfl,hx.st hw,rfl,rfl,rfl⟩
end
end Go.Sx
namespace Go.Sx
open Go
abbrev Str:=List UInt8
theorem bu {α:Type}{l:List α}{n:Nat}{x:α}(h:l[n]? =some x):l.drop n=x::l.drop (n+1):=by
 obtain⟨hlt,rfl⟩:=List.getElem?_eq_some_iff.1 h
 exact List.drop_eq_getElem_cons hlt
theorem ut {k:Int}(h:0≤k):(k+1).toNat=k.toNat+1:=by omega
theorem zu {α:Type}{l:List α}{k:Int}(h:¬k<l.length):l.drop k.toNat=[]:=List.drop_eq_nil_of_le om
theorem ww {α:Type}{l:List α}{k:Int}{x:α}(hk:0≤k)(h:l[k.toNat]? =some x):l.drop k.toNat=x::l.drop (k+1).toNat:=by
 rw [ut hk];exact bu h
def eb (c:UInt8):Bool:=decide ((97:Int)≤c.toNat)&&decide ((c.toNat:Int)≤122)
def gS (c:UInt8):Bool:=decide ((48:Int)≤c.toNat)&&decide ((c.toNat:Int)≤57)
def ew (c:UInt8):Bool:=eb c||gS c
def kw1 (s:Str):Bool:=(decide (s=[97,110,100])||(decide (s=[97,115])||(decide (s=[97,116])||(decide (s=[98,111,111,108])||(decide (s=[99,97,108,108])||(decide (s=[99,104,97,110])||(decide (s=[100,114,111,112])||(decide (s=[101,108,115,101])||(decide (s=[101,109,112,116,121])||(decide (s=[101,110,100])||(decide (s=[102,97,105,108])||(decide (s=[102,97,108,115,101])||decide (s=[102,114,111,109])))))))))))))
def kw2 (s:Str):Bool:=(decide (s=[104,101,97,114])||(decide (s=[105,102])||(decide (s=[105,110,116])||(decide (s=[106,111,105,110])||(decide (s=[108,101,110])||(decide (s=[108,101,116])||(decide (s=[108,105,115,116])||(decide (s=[108,111,99,97,108])||(decide (s=[108,111,115,116])||(decide (s=[109,111,100])||(decide (s=[110,111,116])||(decide (s=[111,112,101,110])||decide (s=[111,114])))))))))))))
def kw3 (s:Str):Bool:=(decide (s=[112,114,105,110,116])||(decide (s=[112,114,111,99])||(decide (s=[112,114,111,116,111,99,111,108])||(decide (s=[112,117,115,104])||(decide (s=[114,111,108,101,115])||(decide (s=[115,97,121])||(decide (s=[115,112,97,119,110])||(decide (s=[115,116,111,112])||(decide (s=[116,101,120,116])||(decide (s=[116,111])||(decide (s=[116,114,117,101])||(decide (s=[117,110,105,116])||decide (s=[119,105,116,104])))))))))))))
def rkw1 (s:Str):Bool:=(decide (s=[97,110,100])||(decide (s=[97,115])||(decide (s=[97,116])||(decide (s=[98,111,111,108])||(decide (s=[99,97,108,108])||(decide (s=[99,104,97,110])||(decide (s=[100,114,111,112])||(decide (s=[101,108,115,101])||(decide (s=[101,109,112,116,121])||(decide (s=[101,110,100])||(decide (s=[102,97,105,108])||(decide (s=[102,97,108,115,101])||(decide (s=[102,114,111,109])||(decide (s=[104,101,97,114])||(decide (s=[105,102])||(decide (s=[105,110,116])||(decide (s=[106,111,105,110])||(decide (s=[108,101,110])||(decide (s=[108,101,116])||decide (s=[108,105,115,116]))))))))))))))))))))
def rkw2 (s:Str):Bool:=(decide (s=[108,111,99,97,108])||(decide (s=[108,111,115,116])||(decide (s=[109,111,100])||(decide (s=[110,111,116])||(decide (s=[111,112,101,110])||(decide (s=[111,114])||(decide (s=[112,114,105,110,116])||(decide (s=[112,114,111,99])||(decide (s=[112,114,111,116,111,99,111,108])||(decide (s=[112,117,115,104])||(decide (s=[114,111,108,101,115])||(decide (s=[115,97,121])||(decide (s=[115,112,97,119,110])||(decide (s=[115,116,111,112])||(decide (s=[116,101,120,116])||(decide (s=[116,111])||(decide (s=[116,114,117,101])||(decide (s=[117,110,105,116])||decide (s=[119,105,116,104])))))))))))))))))))
def dM (s:Str):Bool:=kw1 s||(kw2 s||kw3 s)
theorem uA (s:Str):(rkw1 s||rkw2 s)=dM s:=by
 simp only [rkw1,rkw2,dM,kw1,kw2,kw3,Bool.or_assoc]
def aG (s:Str):Bool:=
 if(s.length:Int)<1 then false else if(12:Int)<s.length then false else if eb (s.headD 0)=false then false else if dM s then false
 else(s.drop 1).all ew
theorem tR {s:Str}{c:UInt8}(h:s[(0:Int).toNat]? =some c):s.headD 0=c:=by
 cases s with
 | nil=>simp at h
 | cons a s=>simpa using h
structure Typing where
 name:Str
 kind:Int
 at_:Int
structure Term where
 kind:Int
 name:Str
 n:Int
 text:Str
 l:Int
 r:Int
def Term.cells (t:Term):List Value:=[.int .i64 t.kind,gs t.name,.int .i64 t.n,gs t.text,.int .i64 t.l,.int .i64 t.r]
def i64ok (n:Int):Prop:= -9223372036854775808≤n∧n≤9223372036854775807
theorem l9 {α:Type}{enc:α→List Value}{k:Nat}:∀{l:List α},(∀x∈l,(enc x).length=k)→∀(i:Nat) (x:α),l[i]? =some x→∀j u,(enc x)[j]? =some u→(l.flatMap enc)[i * k+j]? =some u
 | [],_,i,x,hx,_,_,_=>by simp at hx
 | y::l,hk,0,x,hx,j,u,hu=>by
  simp only [List.getElem?_cons_zero,Option.some.injEq] at hx
  subst hx
  have:j<(enc y).length:=(List.getElem?_eq_some_iff.1 hu).1
  simp only [List.flatMap_cons,Nat.zero_mul,Nat.zero_add]
  rw [List.getElem?_append_left this];exact hu
 | y::l,hk,i+1,x,hx,j,u,hu=>by
  have h1:=hk y sq
  simp only [List.flatMap_cons]
  rw [List.getElem?_append_right (by rw [h1,Nat.succ_mul];omega),h1,show(i+1) * k+j - k=i * k+j by rw [Nat.succ_mul];omega]
  exact l9 (fun z hz=>hk z (List.mem_cons_of_mem _ hz)) i x (by simpa using hx) j u hu
theorem RdSl.blk {α:Type}{H:Hp}{enc:α→List Value}{k b cap:Nat}{cs:List Value}{l:List α}(h:∀o v,cs[o]? =some v→H b o=some v)(hk:∀x∈l,(enc x).length=k)(hc:cs=l.flatMap enc)
  (hm:l.length≤9223372036854775807) (hcap:l.length≤cap:=by first | exact Nat.le_refl _ | omega | (simp;done) | (simp;omega)):RdSl H k enc (.slice (some ⟨b,0,none⟩) l.length cap) l:=by
 subst hc
 refine⟨⟨_,_,rfl⟩,hm,fun _=>⟨_,rfl⟩,fun i x hx j u hu=>?_,fun a n c e=>by injection e with _ _ e;omega⟩
 have:=l9 hk i x hx j u hu
 simp only [off,Nat.zero_add]
 exact h _ _ this
theorem RdSl.nil {α:Type}{H:Hp}{enc:α→List Value}{k:Nat}:RdSl H k enc (.slice none 0 0) []:=
 ⟨⟨_,_,rfl⟩,by simp,fun h=>absurd rfl h,fun i x hx=>by simp at hx,fun a n c _=>by simp⟩
end Go.Sx
namespace Go.Sx
open Go
theorem xc {s:Str}(h:decide ((s.length:Int)<1)=true∨decide ((12:Int)<s.length)=true∨(∃c,s[(0:Int).toNat]? =some c∧(!eb c)=true)∨dM s=true):aG s=false:=by
 unfold aG
 rcases h with h | h | ⟨c,hc,h⟩ | h
 ·rw [if_pos (of_decide_eq_true h)]
 ·split
  ·rfl
  ·rw [if_pos (of_decide_eq_true h)]
 ·rw [tR hc]
  split
  ·rfl
  split
  ·rfl
  rw [if_pos (by simpa using h)]
 ·split
  ·rfl
  split
  ·rfl
  split
  ·rfl
  first | rfl | rw [if_pos h]
theorem ll {s:Str}{c:UInt8}(h1:decide ((s.length:Int)<1)=false)(h2:decide ((12:Int)<s.length)=false)(hc:s[(0:Int).toNat]? =some c)(h3:(!eb c)=false)(h4:dM s=false):aG s=(s.drop 1).all ew:=by
 unfold aG
 rw [if_neg (of_decide_eq_false h1),if_neg (of_decide_eq_false h2),tR hc,if_neg (by simpa using h3),if_neg (by simp [h4])]
theorem qN {s:Str}{k:Int}{c:UInt8}(h:(s.drop 1).all ew=(s.drop k.toNat).all ew)(hk:0≤k)(hc:s[k.toNat]? =some c)(hx:(!eb c)=false∨(!gS c)=false):(s.drop 1).all ew=(s.drop (k+1).toNat).all ew:=by
 rw [h,ww hk hc,List.all_cons]
 have:ew c=true:=by unfold ew;rcases hx with hx | hx<;>simp at hx<;>simp [hx]
 simp [this]
theorem tD {s:Str}{k:Int}(hn:aG s=(s.drop 1).all ew)(h:(s.drop 1).all ew=(s.drop k.toNat).all ew)(hk:¬k<s.length):aG s=true:=by
 rw [hn,h,zu hk];rfl
theorem tE {s:Str}{k:Int}{c:UInt8}(hn:aG s=(s.drop 1).all ew)(h:(s.drop 1).all ew=(s.drop k.toNat).all ew)(hk:0≤k)(hc:s[k.toNat]? =some c)(h1:(!eb c)=true)(h2:(!gS c)=true):aG s=false:=by
 rw [hn,h,ww hk hc,List.all_cons]
 have:ew c=false:=by unfold ew;simp at h1 h2;simp [h1,h2]
 simp [this]
end Go.Sx
namespace Go.Sx
open Go
def aH (k:Int):Int:=if k<0∨19<k then -1 else if k≤5 then 0 else if k=15∨k=16 then 1 else 2
def dt (t:Term):Bool:=
 if t.kind=0 then aG t.name&&(decide (t.n=0)&&decide (t.text=[]))
 else if t.kind=1 then decide (t.name=[])&&decide (t.text=[])
 else if t.kind=2 then decide (t.name=[])&&(decide (t.text=[])&&(decide (t.n=0)||decide (t.n=1)))
 else if t.kind=3 then decide (t.name=[])&&(decide (t.n=0)&&decide ((t.text.length:Int)≤24))
 else decide (t.name=[])&&(decide (t.n=0)&&decide (t.text=[]))
def opW (k at_:Int)(rec:Int→List Bool→Bool×List Bool)(i to:Int)(met:List Bool):Bool×List Bool:=
 if k≤i then(decide (to= -1),met) else if to<0∨at_≤to then(false,met) else rec to met
def dy (l:List Term):Nat→Int→Int→List Bool→Bool×List Bool
 | 0,_,_,met=>(false,met)
 | f+1,at_,deep,met=>
  match l[at_.toNat]? with
  | none=>(false,met)
  | some t=>
   if met[at_.toNat]?.getD false=true∨24<deep∨aH t.kind<0∨dt t=false then(false,met)
   else
    let a:=opW (aH t.kind) at_ (fun to m=>dy l f to (deep+1) m) 0 t.l (met.set at_.toNat true)
    if a.1=false then(false,a.2) else opW (aH t.kind) at_ (fun to m=>dy l f to (deep+1) m) 1 t.r a.2
theorem qP {l:List Term}{f:Nat}{at_ deep:Int}{met:List Bool}{t:Term}(hx:l[at_.toNat]? =some t)(h:met[at_.toNat]?.getD false=true∨24<deep∨aH t.kind<0∨dt t=false):
  dy l (f+1) at_ deep met=(false,met):=by
 simp only [dy,hx];rw [if_pos h]
def xO (deep:Int)(met:List Bool)(at_:Int)(t:Term):Prop:=met[at_.toNat]?.getD false=false∧¬24<deep∧¬aH t.kind<0∧dt t=true
theorem qQ {l:List Term}{f:Nat}{at_ deep:Int}{met m:List Bool}{t:Term}(hx:l[at_.toNat]? =some t)(h:xO deep met at_ t)
  (h0:opW (aH t.kind) at_ (fun to m=>dy l f to (deep+1) m) 0 t.l (met.set at_.toNat true)=(false,m)):dy l (f+1) at_ deep met=(false,m):=by
 obtain⟨h1,h2,h3,h4⟩:=h
 simp only [dy,hx];rw [if_neg (by simp [h1,h2,h3,h4]),h0];rfl
theorem lm {l:List Term}{f:Nat}{at_ deep:Int}{met m:List Bool}{t:Term}{r:Bool×List Bool}(hx:l[at_.toNat]? =some t)(h:xO deep met at_ t)
  (h0:opW (aH t.kind) at_ (fun to m=>dy l f to (deep+1) m) 0 t.l (met.set at_.toNat true)=(true,m))
  (h5:opW (aH t.kind) at_ (fun to m=>dy l f to (deep+1) m) 1 t.r m=r):dy l (f+1) at_ deep met=r:=by
 obtain⟨h1,h2,h3,h4⟩:=h
 simp only [dy,hx];rw [if_neg (by simp [h1,h2,h3,h4]),h0];simpa using h5
theorem qK {k at_:Int}{rec:Int→List Bool→Bool×List Bool}{i to:Int}{met:List Bool}(h:k≤i)(hb:¬to= -1):opW k at_ rec i to met=(false,met):=by
 unfold opW;rw [if_pos h];simp [hb]
theorem fB {k at_:Int}{rec:Int→List Bool→Bool×List Bool}{i to:Int}{met:List Bool}(h:k≤i)(hb:to= -1):opW k at_ rec i to met=(true,met):=by
 unfold opW;rw [if_pos h];simp [hb]
theorem fR {k at_:Int}{rec:Int→List Bool→Bool×List Bool}{i to:Int}{met:List Bool}{r:Bool×List Bool}(h:¬k≤i)(h2:decide (to<0)=false)(h3:decide (at_≤to)=false)(e:rec to met=r):opW k at_ rec i to met=r:=by
 unfold opW;rw [if_neg h,if_neg (by simp at h2 h3;omega)];exact e
theorem uO {k at_:Int}{rec:Int→List Bool→Bool×List Bool}{i to:Int}{met:List Bool}(h:¬k≤i)(h2:decide (to<0)=true):opW k at_ rec i to met=(false,met):=by
 unfold opW;rw [if_neg h,if_pos (.inl (of_decide_eq_true h2))]
theorem uN {k at_:Int}{rec:Int→List Bool→Bool×List Bool}{i to:Int}{met:List Bool}(h:¬k≤i)(h2:decide (at_≤to)=true):opW k at_ rec i to met=(false,met):=by
 unfold opW;rw [if_neg h,if_pos (.inr (of_decide_eq_true h2))]
theorem uM {k at_:Int}{rec:Int→List Bool→Bool×List Bool}{i to:Int}{met:List Bool}(h:k≤i):opW k at_ rec i to met=(decide (to= -1),met):=by
 unfold opW;rw [if_pos h]
theorem qL {k at_:Int}{rec:Int→List Bool→Bool×List Bool}{i to:Int}{met:List Bool}(h:¬k≤i)(h2:to<0∨at_≤to):opW k at_ rec i to met=(false,met):=by
 unfold opW;rw [if_neg h,if_pos h2]
theorem qJ {k at_:Int}{rec:Int→List Bool→Bool×List Bool}{i to:Int}{met:List Bool}(h:¬k≤i)(h2:¬to<0)(h3:¬at_≤to):opW k at_ rec i to met=rec to met:=by
 unfold opW;rw [if_neg h,if_neg om]
theorem xH {met:List Bool}{i:Nat}(h:i<met.length):(met.map Value.bool)[0+i * 1]? =some (.bool (met[i]?.getD false)):=by
 simp [List.getElem?_eq_getElem h]
theorem xG (met:List Bool)(i:Nat)(b:Bool):(met.map Value.bool).set (0+i * 1) (.bool b)=(met.set i b).map Value.bool:=by
 simp [List.map_set]
theorem uB (n:Nat):fP n [Value.bool false]=(List.replicate n false).map Value.bool:=by
 induction n with
 | zero=>rfl
 | succ n ih=>simp [fP,ih,List.replicate_succ]
def dH (l:List Term)(root:Int):Bool:=
 if(160:Int)<l.length then false else if root<0 then false else if(l.length:Int)≤root then false else(dy l (root.toNat+1) root 1 (List.replicate l.length false)).1
theorem mA {l:List Term}{root:Int}(h:decide ((160:Int)<l.length)=true):dH l root=false:=by unfold dH;rw [if_pos (of_decide_eq_true h)]
theorem mz {l:List Term}{root:Int}(h:decide (root<0)=true):dH l root=false:=by
 unfold dH;split
 ·rfl
 ·rw [if_pos (of_decide_eq_true h)]
theorem my {l:List Term}{root:Int}(h:(l.length:Int)≤root):dH l root=false:=by
 unfold dH;split
 ·rfl
 ·split
  ·rfl
  ·first | rfl | rw [if_pos h]
theorem mayB_in {l:List Term}{root:Int}(h1:decide ((160:Int)<l.length)=false)(h2:decide (root<0)=false)(h3:¬(l.length:Int)≤root):(l.length:Int)≤160∧0≤root∧root<l.length:=by
 have:=of_decide_eq_false h1;have:=of_decide_eq_false h2;omega
theorem qS {l:List Term}{root:Int}(h:(l.length:Int)≤160∧0≤root∧root<l.length):dH l root=(dy l (root.toNat+1) root 1 (List.replicate l.length false)).1:=by
 unfold dH;rw [if_neg om,if_neg om,if_neg om]
end Go.Sx
namespace Go.Sx
open Go
def Tr (l:List Term):Nat→Int→Prop
 | 0,_=>False
 | f+1,at_=>0≤at_∧∃t,l[at_.toNat]? =some t∧0≤aH t.kind∧dt t=true∧(1≤aH t.kind→Tr l f t.l)∧(aH t.kind<1→t.l= -1)∧(2≤aH t.kind→Tr l f t.r)∧(aH t.kind<2→t.r= -1)
end Go.Sx
namespace Go.Sx
open Go
theorem mayW_Tr {l:List Term}:∀(f:Nat) (at_ deep:Int) (met:List Bool),0≤at_→(dy l f at_ deep met).1=true→Tr l f at_:=by
 intro f
 induction f with
 | zero=>intro at_ deep met _ h;simp [dy] at h
 | succ f ih=>
  intro at_ deep met h0 h
  cases hx:l[at_.toNat]? with
  | none=>simp [dy,hx] at h
  | some t=>
   by_cases hg:met[at_.toNat]?.getD false=true∨24<deep∨aH t.kind<0∨dt t=false
   ·rw [qP hx hg] at h;cases h
   ·have hgg:xO deep met at_ t:=by
     refine⟨?_,?_,?_,?_⟩
     ·cases hb:met[at_.toNat]?.getD false with
      | false=>rfl
      | true=>exact absurd (.inl hb) hg
     ·intro h1;exact hg (.inr (.inl h1))
     ·intro h1;exact hg (.inr (.inr (.inl h1)))
     ·cases hb:dt t with
      | true=>rfl
      | false=>exact absurd (.inr (.inr (.inr hb))) hg
    generalize h00:opW (aH t.kind) at_ (fun to m=>dy l f to (deep+1) m) 0 t.l (met.set at_.toNat true)=r0
    obtain⟨b0,m0⟩:=r0
    cases b0 with
    | false=>rw [qQ hx hgg h00] at h;cases h
    | true=>
     generalize h11:opW (aH t.kind) at_ (fun to m=>dy l f to (deep+1) m) 1 t.r m0=r1
     rw [lm hx hgg h00 h11] at h
     have key:∀(i to:Int) (m m':List Bool),opW (aH t.kind) at_ (fun to m=>dy l f to (deep+1) m) i to m=(true,m')→(i<aH t.kind→Tr l f to)∧(aH t.kind≤i→to= -1):=by
      intro i to m m' he
      refine⟨fun hi=>?_,fun hi=>?_⟩
      ·by_cases hb:to<0∨at_≤to
       ·rw [qL om hb] at he;cases he
       ·rw [qJ om om om] at he
        exact ih to (deep+1) m om (by rw [he])
      ·rw [uM hi] at he
       simpa using congrArg Prod.fst he
     have k0:=key 0 t.l _ _ h00
     have k1:=key 1 t.r _ r1.2 (by rw [h11];cases r1;simp at h;simp [h])
     exact⟨h0,t,hx,by have:=hgg.2.2.1;omega,hgg.2.2.2,fun h=>k0.1 om,fun h=>k0.2 om,fun h=>k1.1 om,fun h=>k1.2 om⟩
theorem qR {l:List Term}{root:Int}(h:dH l root=true):Tr l (root.toNat+1) root:=by
 unfold dH at h
 split at h
 ·cases h
 ·split at h
  ·cases h
  ·split at h
   ·cases h
   ·exact mayW_Tr _ _ _ _ om h
end Go.Sx
namespace Go.Sx
open Go
section
variable {l:List Term}{env:List Typing}{f:Nat}{at_:Int}{t:Term}(hx:l[at_.toNat]? =some t)
include hx
end
end Go.Sx
namespace Go.Sx
open Go
end Go.Sx
namespace Go.Sx
open Go
end Go.Sx
namespace Go.Sx
open Go
def I64.cells (n:Int):List Value:=[.int .i64 n]
def Str.cells (s:Str):List Value:=[gs s]
instance :Cells 1 I64.cells:=⟨fun _=>rfl,by decide,fun _=>rfl⟩
instance :Cells 1 Str.cells:=⟨fun _=>rfl,by decide,fun _=>rfl⟩
instance :Cells 6 Term.cells:=⟨fun _=>rfl,by decide,fun _=>rfl⟩
theorem bB {α:Type}{l:List α}{k:Int}{x:α}(hk:0≤k)(hx:l[k.toNat]? =some x):l.take (k+1).toNat=l.take k.toNat++[x]:=by
 rw [show(k+1).toNat=k.toNat+1 by omega,List.take_add_one,hx];rfl
theorem bh {α:Type}{l:List α}{k:Int}(h:¬k<l.length)(h2:0≤k):l.take k.toNat=l:=List.take_of_length_le om
theorem bF {α β:Type}{f:α→β}{l:List α}{k:Int}{x:α}(hk:0≤k)(hx:l[k.toNat]? =some x):(l.take (k+1).toNat).map f=(l.take k.toNat).map f++[f x]:=by
 rw [bB hk hx];simp
end Go.Sx
namespace Go.Sx
open Go
end Go.Sx
namespace Go.Sx
open Go
end Go.Sx
namespace Go.Sx
open Go
end Go.Sx
namespace Go.Sx
open Go
theorem enc_gs (s:Str):Go.Proofs.encStr s=gs s:=rfl
theorem oO (d:List Str)(cs:List Value)(h:d.length≤cs.length):(Go.Sort.putCells Go.Proofs.encStr 0 d.toArray cs.toArray).toList=d.map gs++cs.drop d.length:=by
 apply List.ext_getElem?
 intro k
 rw [List.getElem?_append]
 by_cases hk:k<d.length
 ·simp [Go.Sort.putCells,hk,show k<cs.length by omega]
  rfl
 ·by_cases hc:k<cs.length
  ·simp [Go.Sort.putCells,hk,hc,show d.length+(k - d.length)=k by omega]
  ·simp [Go.Sort.putCells,hk,hc,show d.length+(k - d.length)=k by omega]
section
variable {P:Program}{n:Nat}{ops:Array Oper}{Q:Exit→Act→World→Prop}{E:Env}{M:List Nat}{w0:World}{H0 H:Hp}{L:aj}{C:World→Prop}{rest:List Oper}{dst:Option Nat}{op:Op}{ty:TypeId}{pos:String}{aft:Array Edge}
theorem St.row {w:World}{b:Nat}{cs:List Value}{R:aj}{d:List Str}(h:St M w0 H0 H ((b,cs)::R) w)(hd:d.length≤cs.length)(q:Nat)(os:Array Obj):
  St M w0 H0 H ((b,d.map gs++cs.drop d.length)::R) (Go.Sort.grow (Go.Sort.putRow Go.Proofs.encStr (Go.Sort.ahead w q) b 0 d.toArray) os):=by
 have h1:St M w0 H0 H ((b,d.map gs++cs.drop d.length)::R) (Go.Sort.putRow Go.Proofs.encStr (Go.Sort.ahead w q) b 0 d.toArray):=by
  refine h.set (Upd.here _) _ sq rfl rfl rfl (fun t ht=>?_) (fun k hk=>?_)
  ·have e:(Go.Sort.putCells Go.Proofs.encStr 0 d.toArray cs.toArray)=(d.map gs++cs.drop d.length).toArray:=by
    apply Array.ext'
    rw [oO d cs hd]
   simp [Go.Sort.putRow,Go.Sort.mapBlock,Array.getElem?_modify,ht,Go.Sort.onCells,e]
  ·simp [Go.Sort.putRow,Go.Sort.mapBlock,Array.getElem?_modify,Ne.symm hk]
 refine Ext.st (w:=Go.Sort.putRow Go.Proofs.encStr (Go.Sort.ahead w q) b 0 d.toArray) ⟨rfl,rfl,rfl,by simp [Go.Sort.grow],fun k hk=>?_⟩ h1
 simp only [Go.Sort.grow]
 rw [Array.getElem?_append_left hk]
theorem St.holds {w:World}{b:Nat}{cs:List Value}{R:aj}{d:List Str}(h:St M w0 H0 H ((b,cs)::R) w)(hd:cs.take d.length=d.map gs):Go.Sort.Holds Go.Proofs.encStr w b 0 d.toArray:=by
 intro j hj
 have hj':j<d.length:=by simpa using hj
 have h1:cs[j]? =some (gs d[j]):=by
  have:(cs.take d.length)[j]? =some (gs d[j]):=by rw [hd];simp [hj']
  rw [List.getElem?_take] at this
  simpa [hj'] using this
 constructor
 ·rw [Nat.zero_add,h.cell (.here _) j,h1]
  simp [hj',enc_gs]
 ·obtain⟨t,ht⟩:=h.own (b,cs) sq
  have ht':w.heap[b]? =some (.cells cs.toArray t (0,0)):=ht
  simp [World.frozen?,ht']
theorem uj {ι:Type}{f:FuncId}{args:List Value}{Φ:Value→ι→Prop}{C':ι→World→Prop}(hE:cB P E op f args)(hF:∀w,C w→Calls P f args.toArray w (fun e w'=>∃v i,e= .returned v∧Φ v i∧C' i w'))(hd:bR dst n=true)
  (h:∀v i,Φ v i→TL P n ops Q rest (bN dst v E) (C' i)):TL P n ops Q ({dst:=dst,op:=op,type:=ty,pos:=pos,after:=aft,guard:=none}::rest) E C:=by
 intro a w he hw
 refine bW rfl (fun K hK=>?_)
 unfold Oper.wp
 rw [hE n a w _ rfl he]
 refine(hF w hw).mono ?_
 rintro e w' ⟨v,i,rfl,hΦ,hC⟩
 exact hK _ _ (h v i hΦ _ _ (he.put hd) hC)
structure SortC (P:Program)(f:FuncId):Prop where
 some:∀(b off cap:Nat) (ss:List Str) (w:World),Go.Sort.Holds Go.Proofs.encStr w b off ss.toArray→b<w.heap.size→ss.length<4611686018427387904→
  Calls P f #[.slice (some ⟨b,off,none⟩) ss.length cap] w fun e w'=>e= .returned (.tuple #[])∧∃n os,w'=Go.Sort.grow (Go.Sort.putRow Go.Proofs.encStr (Go.Sort.ahead w n) b off (ss.mergeSort fun x y=>decide (x≤y)).toArray) os
 none:∀(p:Option Addr) (cap:Nat) (w:World),Calls P f #[.slice p 0 cap] w fun e w'=>e= .returned (.tuple #[])∧w'=w
def gn (l:List Str):List Str:=l.mergeSort fun x y=>decide (x≤y)
theorem gm (l:List Str):(gn l).length=l.length:=List.length_mergeSort _
theorem kG (l:List Str):l.flatMap Str.cells=l.map gs:=by
 induction l with
 | nil=>rfl
 | cons x l ih=>simp [Str.cells,ih]
theorem yP {f:FuncId}(hS:SortC P f){v:Value}{xs:List Str}{ob:aj}{F:aj→aj}(hO:OwnSl 1 Str.cells v xs ob)(hU:Tl ob L F)(hm:xs.length<4611686018427387904){w:World}(hw:St M w0 H0 H L w):
  Calls P f #[v] w (fun e w'=>∃u ob',e= .returned u∧(u= .tuple #[]∧OwnSl 1 Str.cells v (gn xs) ob')∧St M w0 H0 H (F ob') w'):=by
 obtain⟨R,hp1,hp2⟩:=hU.perm
 rcases hO with ⟨rfl,rfl,rfl⟩ | ⟨b,cap,cs,rfl,rfl,hcl,htk,hle,hcm⟩
 ·refine(hS.none none 0 w).mono ?_
  rintro e w' ⟨rfl,rfl⟩
  exact⟨_,[],rfl,⟨rfl,by rw [show gn []=[] by unfold gn;simp];exact OwnSl.nil⟩,hw.perm (hp1.trans (hp2 []).symm)⟩
 ·have hwR:=hw.perm hp1
  have ht:cs.take xs.length=xs.map gs:=by rw [← kG,← htk,Nat.mul_one]
  have hlen:xs.length≤cs.length:=by omega
  refine(hS.some b 0 cap xs w (hwR.holds ht) (hwR.lt (p:=(b,cs)) sq) hm).mono ?_
  rintro e w' ⟨rfl,q,os,rfl⟩
  have h2:=hwR.row (d:=gn xs) (by rw [gm];exact hlen) q os
  refine⟨_,[(b,(gn xs).map gs++cs.drop (gn xs).length)],rfl,⟨rfl,.inr ⟨b,cap,_,by rw [gm],rfl,?_,?_,by rw [gm];exact hle,hcm⟩⟩,h2.perm (hp2 [(b,_)]).symm⟩
  ·simp [gm];omega
  ·rw [Nat.mul_one,kG,List.take_left' sq]
theorem TL.sort {f:FuncId}{v:Value}{xs:List Str}{ob:aj}{F:aj→aj}(hE:cB P E op f [v])(hS:SortC P f)(hO:OwnSl 1 Str.cells v xs ob)(hU:Tl ob L F)(hm:xs.length<4611686018427387904)(hd:bR dst n=true)
  (h:∀ob',OwnSl 1 Str.cells v (gn xs) ob'→TL P n ops Q rest (bN dst (.tuple #[]) E) (St M w0 H0 H (F ob'))):
  TL P n ops Q ({dst:=dst,op:=op,type:=ty,pos:=pos,after:=aft,guard:=none}::rest) E (St M w0 H0 H L):=
 uj (ι:=aj) (Φ:=fun u ob'=>u= .tuple #[]∧OwnSl 1 Str.cells v (gn xs) ob') (C':=fun ob'=>St M w0 H0 H (F ob')) hE (fun w hw=>yP hS hO hU hm hw) hd (fun u ob' hΦ=>by obtain⟨rfl,hO'⟩:=hΦ;exact h ob' hO')
structure CompactC (P:Program)(f:FuncId):Prop where
 some:∀(b off cap:Nat) (zs:List Str) (w:World),Go.Sort.Holds Go.Proofs.encStr w b off zs.toArray→zs.length≤9223372036854775807→zs.length≤cap→
  Calls P f #[.slice (some ⟨b,off,none⟩) zs.length cap] w fun e w'=>e= .returned (.slice (some ⟨b,off,none⟩) (Lib.compact zs).length cap)∧∃q,w'=Go.Sort.putRow Go.Proofs.encStr (Go.Sort.ahead w q) b off (Lib.compact zs++List.replicate (zs.length - (Lib.compact zs).length) []).toArray
 none:∀(p:Option Addr) (cap:Nat) (w:World),Calls P f #[.slice p 0 cap] w fun e w'=>e= .returned (.slice p 0 cap)∧w'=w
theorem sU {f:FuncId}(hS:CompactC P f){v:Value}{xs:List Str}{ob:aj}{F:aj→aj}(hO:OwnSl 1 Str.cells v xs ob)(hU:Tl ob L F){w:World}(hw:St M w0 H0 H L w):
  Calls P f #[v] w (fun e w'=>∃u ob',e= .returned u∧OwnSl 1 Str.cells u (Lib.compact xs) ob'∧St M w0 H0 H (F ob') w'):=by
 obtain⟨R,hp1,hp2⟩:=hU.perm
 rcases hO with ⟨rfl,rfl,rfl⟩ | ⟨b,cap,cs,rfl,rfl,hcl,htk,hle,hcm⟩
 ·refine(hS.none none 0 w).mono ?_
  rintro e w' ⟨rfl,rfl⟩
  exact⟨_,[],rfl,OwnSl.nil,hw.perm (hp1.trans (hp2 []).symm)⟩
 ·have hwR:=hw.perm hp1
  have ht:cs.take xs.length=xs.map gs:=by rw [← kG,← htk,Nat.mul_one]
  have hlen:xs.length≤cs.length:=by omega
  have hc:=Lib.compact_length_le xs
  refine(hS.some b 0 cap xs w (hwR.holds ht) om hle).mono ?_
  rintro e w' ⟨rfl,q,rfl⟩
  have hl2:(Lib.compact xs++List.replicate (xs.length - (Lib.compact xs).length) ([]:Str)).length=xs.length:=by simp;omega
  have h2:=hwR.row (d:=Lib.compact xs++List.replicate (xs.length - (Lib.compact xs).length) []) (by rw [hl2];exact hlen) q #[]
  have hg:∀W:World,Go.Sort.grow W #[]=W:=fun W=>by simp [Go.Sort.grow]
  rw [hg,hl2] at h2
  refine⟨_,[(b,(Lib.compact xs++List.replicate (xs.length - (Lib.compact xs).length) ([]:Str)).map gs++cs.drop xs.length)],rfl,.inr ⟨b,cap,_,rfl,rfl,?_,?_,by omega,hcm⟩,h2.perm (hp2 [(b,_)]).symm⟩
  ·rw [List.length_append,List.length_map,hl2];simp;omega
  ·rw [Nat.mul_one,kG,List.map_append,List.append_assoc,List.take_left' sq]
theorem TL.compact {f:FuncId}{v:Value}{xs:List Str}{ob:aj}{F:aj→aj}(hE:cB P E op f [v])(hS:CompactC P f)(hO:OwnSl 1 Str.cells v xs ob)(hU:Tl ob L F)(hd:bR dst n=true)
  (h:∀a c ob',OwnSl 1 Str.cells (.slice a (Lib.compact xs).length c) (Lib.compact xs) ob'→TL P n ops Q rest (bN dst (.slice a (Lib.compact xs).length c) E) (St M w0 H0 H (F ob'))):
  TL P n ops Q ({dst:=dst,op:=op,type:=ty,pos:=pos,after:=aft,guard:=none}::rest) E (St M w0 H0 H L):=
 uj (ι:=aj) (Φ:=fun u ob'=>OwnSl 1 Str.cells u (Lib.compact xs) ob') (C':=fun ob'=>St M w0 H0 H (F ob')) hE (fun w hw=>sU hS hO hU hw) hd (fun u ob' hΦ=>by obtain⟨a,c,rfl⟩:=hΦ.form;exact h a c ob' hΦ)
end
end Go.Sx
namespace Go.Sx
open Go
def eo (l:List Term):Nat→Int→List Str
 | 0,_=>[]
 | f+1,at_=>if at_<0 then [] else match l[at_.toNat]? with
  | none=>[]
  | some t=>eo l f t.l++(eo l f t.r++(if t.kind=0 then [t.name] else []))
theorem kV {l:List Term}{f:Nat}{at_:Int}(h:at_<0):eo l f at_=[]:=by
 cases f with
 | zero=>rfl
 | succ f=>unfold eo;rw [if_pos h]
theorem kb {l:List Term}{f:Nat}{at_:Int}{t:Term}(h:¬at_<0)(hx:l[at_.toNat]? =some t):eo l (f+1) at_=eo l f t.l++(eo l f t.r++(if t.kind=0 then [t.name] else [])):=by
 rw [eo,if_neg h,hx]
theorem xg {l:List Term}:∀(f:Nat) (at_ deep:Int) (met:List Bool),0≤at_→1≤deep→(dy l f at_ deep met).1=true→(eo l f at_).length≤2 ^ (25 - deep.toNat):=by
 intro f
 induction f with
 | zero=>intro at_ deep met _ _ h;simp [dy] at h
 | succ f ih=>
  intro at_ deep met h0 hd h
  cases hx:l[at_.toNat]? with
  | none=>simp [dy,hx] at h
  | some t=>
   by_cases hg:met[at_.toNat]?.getD false=true∨24<deep∨aH t.kind<0∨dt t=false
   ·rw [qP hx hg] at h;cases h
   ·have hgg:xO deep met at_ t:=by
     refine⟨?_,?_,?_,?_⟩
     ·cases hb:met[at_.toNat]?.getD false with
      | false=>rfl
      | true=>exact absurd (.inl hb) hg
     ·intro h1;exact hg (.inr (.inl h1))
     ·intro h1;exact hg (.inr (.inr (.inl h1)))
     ·cases hb:dt t with
      | true=>rfl
      | false=>exact absurd (.inr (.inr (.inr hb))) hg
    generalize h00:opW (aH t.kind) at_ (fun to m=>dy l f to (deep+1) m) 0 t.l (met.set at_.toNat true)=r0
    obtain⟨b0,m0⟩:=r0
    cases b0 with
    | false=>rw [qQ hx hgg h00] at h;cases h
    | true=>
     generalize h11:opW (aH t.kind) at_ (fun to m=>dy l f to (deep+1) m) 1 t.r m0=r1
     rw [lm hx hgg h00 h11] at h
     have h24:=hgg.2.1
     have key:∀(i to:Int) (m m':List Bool),opW (aH t.kind) at_ (fun to m=>dy l f to (deep+1) m) i to m=(true,m')→(i<aH t.kind→(eo l f to).length≤2 ^ (25 - (deep+1).toNat))∧(aH t.kind≤i→eo l f to=[]):=by
      intro i to m m' he
      refine⟨fun hi=>?_,fun hi=>?_⟩
      ·by_cases hb:to<0∨at_≤to
       ·rw [qL om hb] at he;cases he
       ·rw [qJ om om om] at he
        exact ih to (deep+1) m om om (by rw [he])
      ·rw [uM hi] at he
       have:to= -1:=by simpa using congrArg Prod.fst he
       exact kV om
     have k0:=key 0 t.l _ _ h00
     have k1:=key 1 t.r _ r1.2 (by rw [h11];cases r1;simp at h;simp [h])
     rw [kb om hx]
     have hp:2 ^ (25 - deep.toNat)=2 * 2 ^ (25 - (deep+1).toNat):=by
      rw [show 25 - deep.toNat=(25 - (deep+1).toNat)+1 by omega,Nat.pow_succ];omega
     have h1:0<2 ^ (25 - (deep+1).toNat):=Nat.two_pow_pos _
     simp only [List.length_append]
     by_cases hk:t.kind=0
     ·have ho:aH t.kind=0:=by rw [hk];decide
      rw [k0.2 om,k1.2 om,if_pos hk]
      simp;omega
     ·rw [if_neg hk]
      have a0:(eo l f t.l).length≤2 ^ (25 - (deep+1).toNat):=by
       rcases Int.lt_or_le 0 (aH t.kind) with ho | ho
       ·exact k0.1 ho
       ·rw [k0.2 ho];simp
      have a1:(eo l f t.r).length≤2 ^ (25 - (deep+1).toNat):=by
       rcases Int.lt_or_le 1 (aH t.kind) with ho | ho
       ·exact k1.1 ho
       ·rw [k1.2 ho];simp
      simp;omega
theorem qa {l:List Term}{root:Int}(h:dH l root=true):(eo l (root.toNat+1) root).length≤16777216:=by
 unfold dH at h
 split at h
 ·cases h
 ·split at h
  ·cases h
  ·split at h
   ·cases h
   ·have:=xg _ _ _ _ om dq h
    exact this
def gk (l:List Term)(root:Int):List Str:=if dH l root then Lib.compact (gn (eo l (root.toNat+1) root)) else []
def bz (l:List Str)(s:Str):Int:=match l with
 | []=> -1
 | x::r=>if x=s then 0 else if bz r s<0 then -1 else bz r s+1
theorem gM (l:List Str)(s:Str):bz l s= -1∨(0≤bz l s∧bz l s<l.length):=by
 induction l with
 | nil=>exact .inl rfl
 | cons x r ih=>
  unfold bz
  split
  ·right;simp only [List.length_cons,Int.natCast_add];omega
  ·split
   ·exact .inl rfl
   ·right;simp only [List.length_cons,Int.natCast_add];omega
theorem dr {l:List Str}{s:Str}{k:Int}(h0:0≤k)(hx:l[k.toNat]? =some s)(hn:∀j:Nat,j<k.toNat→l[j]? ≠some s):bz l s=k:=by
 induction l generalizing k with
 | nil=>simp at hx
 | cons x r ih=>
  unfold bz
  by_cases hk:k=0
  ·subst hk
   simp at hx
   rw [if_pos hx]
  ·have hne:¬x=s:=by
    have:=hn 0 om
    simpa using this
   rw [if_neg hne]
   have e:=ih (k:=k - 1) om (by
    rw [show k.toNat=(k - 1).toNat+1 by omega] at hx
    simpa using hx) (fun j hj=>by
     have:=hn (j+1) om
     simpa using this)
   rw [e,if_neg om];omega
theorem iV {l:List Str}{s:Str}(hn:s∉l):bz l s= -1:=by
 induction l with
 | nil=>rfl
 | cons x r ih=>
  simp only [List.mem_cons,not_or] at hn
  unfold bz
  rw [if_neg (fun e=>hn.1 e.symm),ih hn.2];rfl
theorem nN {l:List Str}{s:Str}:0≤bz l s↔s∈l:=by
 constructor
 ·intro h
  apply Classical.byContradiction
  intro hn
  rw [iV hn] at h
  omega
 ·intro h
  induction l with
  | nil=>cases h
  | cons x r ih=>
   unfold bz
   split
   ·decide
   ·rename_i hne
    have h1:=ih (by rcases List.mem_cons.1 h with rfl | h;exact absurd rfl hne;exact h)
    rw [if_neg om];omega
theorem jD {l:List Str}{s x:Str}{k:Int}(h0:0≤k)(h:∀j:Nat,j<k.toNat→l[j]? ≠some s)(hx:l[k.toNat]? =some x)(hne:¬x=s):∀j:Nat,j<(k+1).toNat→l[j]? ≠some s:=by
 intro j hj
 by_cases hk:j=k.toNat
 ·subst hk;rw [hx];simpa using hne
 ·exact h j om
theorem et {l:List Str}{s:Str}{k:Int}(h:∀j:Nat,j<k.toNat→l[j]? ≠some s)(hk:¬k<l.length):bz l s= -1:=by
 refine iV (fun hm=>?_)
 obtain⟨j,hj⟩:=List.mem_iff_getElem?.1 hm
 exact h j (by have:=(List.getElem?_eq_some_iff.1 hj).1;omega) hj
def bX (l:List Str)(s:Str):Bool:=decide (s∈l)
theorem n9 (l:List Str)(s:Str):decide (0≤bz l s)=bX l s:=by
 unfold bX
 rw [Bool.eq_iff_iff];simp only [decide_eq_true_eq]
 exact nN
end Go.Sx
namespace Go.Sx
open Go
theorem tF {zs:List Str}{x:Str}:x∈Lib.compact zs↔x∈zs:=by
 unfold Lib.compact Lib.compactUpTo
 simp only [List.mem_map,List.mem_filter,List.mem_range]
 constructor
 ·rintro⟨j,⟨hj,_⟩,rfl⟩
  have:j<zs.toArray.size:=by simpa using hj
  rw [getElem!_pos zs.toArray j this]
  simp
 ·intro hx
  obtain⟨j,hj,rfl⟩:=List.getElem_of_mem hx
  have key:∀j (hj:j<zs.length),∃i,(i<zs.length∧Lib.keeps zs.toArray i=true)∧zs.toArray[i]! =zs[j]:=by
   intro j
   induction j with
   | zero=>
    intro hj
    refine⟨0,⟨hj,by simp [Lib.keeps]⟩,?_⟩
    rw [getElem!_pos zs.toArray 0 (by simpa using hj)];simp
   | succ j ih=>
    intro hj
    by_cases hk:Lib.keeps zs.toArray (j+1)=true
    ·refine⟨j+1,⟨hj,hk⟩,?_⟩
     rw [getElem!_pos zs.toArray (j+1) (by simpa using hj)];simp
    ·obtain⟨i,hi,he⟩:=ih om
     refine⟨i,hi,?_⟩
     rw [he]
     have:zs.toArray[j+1]! =zs.toArray[j]! :=by
      simpa [Lib.keeps] using hk
     rw [getElem!_pos zs.toArray (j+1) (by simpa using hj),getElem!_pos zs.toArray j (by simp;omega)] at this
     simpa using this.symm
  obtain⟨i,hi,he⟩:=key j hj
  exact⟨i,hi,he⟩
theorem xf {zs:List Str}{x:Str}:x∈gn zs↔x∈zs:=by unfold gn;exact List.mem_mergeSort
theorem xe {l:List Term}{root:Int}{x:Str}(h:dH l root=true):x∈gk l root↔x∈eo l (root.toNat+1) root:=by
 unfold gk;rw [if_pos h,tF,xf]
theorem t8 (zs:List Str):(Lib.compact zs).length≤zs.length:=Lib.compact_length_le zs
theorem pM (l:List Term)(root:Int):(gk l root).length≤16777216:=by
 unfold gk
 split
 ·rename_i h
  have:=t8 (gn (eo l (root.toNat+1) root))
  rw [gm] at this
  have:=qa h
  omega
 ·simp
end Go.Sx
namespace Go.Sx
open Go
end Go.Sx
