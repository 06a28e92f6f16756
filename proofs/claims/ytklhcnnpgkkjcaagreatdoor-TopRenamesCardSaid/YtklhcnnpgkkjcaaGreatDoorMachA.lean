/- The abstract machine: a functional reading of the translated code over plain data, with variables in a small heap of its own. Definitions alone. What the abstract machine's state says of the model's frame and world; how it is kept. Operands, places, loads: what the abstract machine reads is what the model reads. Loads. New variables. Stores. Operations on registers. Lengths, slices, new rows, appends. New owned rows: literals, make, append. -/
import GoSem.Machine.Return
import Derived.Laws.AppendOwn
import Derived.Laws.MakeOwn
import Derived.Laws.Small
import Derived.Orders
import Derived.Laws.Strings
import Derived.Laws.StructEq
import Derived.Laws.BytesString
namespace Go.Ab
variable {f : FuncId} {ops : Array Oper} {n : Nat}
theorem bS{α:Type _}{β:Type _}(a:α)(f:α->Option β):(some a).bind f=f a:=rfl
theorem sI{α:Type _}(a b:α):(some a=some b)=(a=b):=Option.some.injEq a b
theorem mS{α:Type _}{β:Type _}(a:α)(f:α->β):(some a).map f=some (f a):=rfl
theorem aT(a b:Bool):((a&&b)=true)=(a=true/\b=true):=Bool.and_eq_true a b
theorem pI{α:Type _}{β:Type _}(a:α)(b:β)(c:α)(d:β):((a,b)=(c,d))=(a=c/\b=d):=Prod.mk.injEq a b c d
theorem tN(n:Nat):((n:Int)).toNat=n:=Int.toNat_natCast n
theorem dT'{p:Prop} [Decidable p]:(decide p=true)=p:=decide_eq_true_eq
theorem fT:(false=true)=False:=Bool.false_eq_true
theorem cF{α:Type _}(a b:α):(cond false a b)=b:=rfl
theorem cT{α:Type _}(a b:α):(cond true a b)=a:=rfl
theorem nT:(!true)=false:=rfl
theorem tA'(b:Bool):(true&&b)=b:=Bool.true_and b
inductive D where|v(x:Value)|list(xs:List D)|agg(cs:List D)deriving Inhabited
def D.cells:D->List D|.agg cs=>cs|x=>[x]
def D.isAgg:D->Bool|.agg _=>true|_=>false
inductive Place where|slot(t:Nat)|cell(o off:Nat)deriving DecidableEq,Inhabited
inductive AV where|undef|skipped|d(x:D)|own(xs:List D)(lent:Bool)|loc(p:Place)|elt(p:Place)(i off:Nat)|seg(p:Place)(lo hi:Nat)|ptr(o off:Nat)|view(cs:List D)|fn(f:Nat)(caps:List (Nat×Nat))|ref(o:Nat)|agg(cs:List AV)|tup(vs:List AV)deriving Inhabited
abbrev Env:=List (Nat×AV)
abbrev Heap:=List (List AV)
def get:Env->Nat->AV|[],_=>.undef|(k,v)::r,t=>if k=t then v else get r t
def setE:Env->Nat->AV->Env|[],t,v=>[(t,v)]|(k,u)::r,t,v=>if t<k then(t,v)::(k,u)::r else if t=k then(t,v)::r else(k,u)::setE r t v
def q7c:Env->Nat->Env|[],_=>[]|(k,u)::r,t=>if k=t then q7c r t else(k,u)::q7c r t
def q59(e:Env):List Nat->Env|[]=>e|t::r=>q59 (q7c e t) r
def AV.placed:AV->Bool|.loc _|.elt .. |.seg .. =>true|_=>false
def AV.isOwn:AV->Bool|.own .. =>true|_=>false
def q0n:Env->Env|[]=>[]|(k,v)::r=>if v.placed then q7c (q0n r) k else(k,v)::q0n r
def AV.sitsAt(t:Nat):AV->Bool|.loc (.slot u)=>u==t|.elt (.slot u) _ _=>u==t|.seg (.slot u) _ _=>u==t|_=>false
def qat(t:Nat):Env->Env|[]=>[]|(k,v)::r=>if v.sitsAt t then q7c (qat t r) k else(k,v)::qat t r
structure St where
 env:Env
 heap:Heap deriving Inhabited
def putE(e:Env)(t:Nat)(v:AV):Env:=match v with|.undef=>q7c (if(get e t).isOwn then qat t e else e) t|.own xs l=>setE (qat t e) t (.own xs l)|v=>setE (if(get e t).isOwn then qat t e else e) t v
def St.put(s:St)(dst:Option Nat)(v:AV):St:=match dst with|some t=>{s with env:=putE s.env t v}|none=>s
def St.del(s:St):List Nat->St|[]=>s|t::r=>St.del {s with env:=putE s.env t .undef} r
inductive Flag where|view|keep deriving DecidableEq,Inhabited
structure An where
 flag:Nat->Nat->Flag
 clear:Nat->Nat->List Nat
 mode:Nat->Nat->Nat
 order:Nat->Nat->List (List Nat)own:Nat->Bool:=fun _=>false
structure Env0 where
 P:Program
 glob:Nat->Option (List D)an:An
 ok:Nat->Bool
 seek:Nat->Option (Nat×List Int):=fun _=>none
 lib:Nat->Option (List AV->List (List AV)->Option (AV×List (List AV))):=fun _=>none
 pre:Nat->Option (Nat×(AV->List AV->List (List AV)->Option (AV×List (List AV)))):=fun _=>none
def q08:Value->AV|.slice none 0 0=>.own [] false|.slice .. |.agg _|.tuple _|.func .. |.map (some _)|.chan (some _)|.iface .. |.pointer (some _)=>.undef|v=>.d (.v v)
def q0j:Value->AV|.agg cs=>.agg (cs.toList.map q08)|v=>q08 v
def AV.cells:AV->List AV|.agg cs=>cs|.d (.agg cs)=>cs.map .d|v=>[v]
def q03:AV->Option D|.d x=>some x|.own xs _=>some (.list xs)|_=>none
def q0s:List AV->Option (List D)|[]=>some []|c::r=>match q03 c,q0s r with|some x,some xs=>some (x::xs)|_,_=>none
def q4i:AV->Option D|.agg cs=>(q0s cs).map .agg|v=>q03 v
def q4d(fl:Flag)(v:AV):AV:=match fl,v with
 |.view,.own xs _=>.d (.list xs)|.view,.agg cs=>match q0s cs with|some ds=>.d (.agg ds)|none=>.agg cs
 |_,v=>v
def q5d:List AV->Bool|[]=>true|.own _ l::r=>l&&q5d r|_::r=>q5d r
def lend:AV->AV|.own xs _=>.own xs true|v=>v
def q0i(h:Heap)(o off:Nat):AV:=match h[o]? with|some cs=>(cs[off]?).getD .undef|none=>.undef
def q0z(h:Heap)(o off:Nat)(v:AV):Heap:=match h[o]? with|some cs=>h.set o (cs.set off v)|none=>h
def content(s:St):Place->AV|.slot t=>get s.env t|.cell o off=>q0i s.heap o off
def setPlace(s:St)(p:Place)(v:AV):St:=match p with|.slot t=>{s with env:=putE s.env t v}|.cell o off=>{env:=q0n s.env,heap:=q0z s.heap o off v}
def lendPlace(s:St)(p:Place)(v:AV):St:=match p with|.slot t=>{s with env:=setE s.env t v}|.cell o off=>{s with heap:=q0z s.heap o off v}
def ev(E:Env0)(s:St):Operand->AV
 |.tmp t=>get s.env t|.const v=>q0j v|.global g=>match E.glob g with|some cs=>.view cs|none=>.undef
 |.func f=>.fn f []
def plain:AV->Option D|.d a=>some a|_=>none
def plainC (E : Env0) (s : St) (x : Operand) : Option D :=
 match x with
 | .const v => q4i (q0j v)
 | _ => plain (ev E s x)
def plainsC (E : Env0) (s : St) : List Operand -> Option (List D)
 | [] => some []
 | x :: r => match plainC E s x, plainsC E s r with
  | some a, some as => some (a :: as)
  | _, _ => none
def q3f:AV->Option AV|.undef|.skipped|.loc _|.elt .. |.seg .. |.tup _=>none|v=>some v
def qpi:AV->Option AV|.elt p i off=>some (.elt p i off)|.seg p lo hi=>some (.seg p lo hi)|v=>q3f v
def moveU:AV->Option AV|.undef=>some .undef|v=>qpi v
def readPlace(fl:Flag)(q:Bool)(s:St)(p:Place):Option (AV×St):=match content s p with
 |.own xs l=>match fl with|.keep=>some (.loc p,s)|.view=>if l then some (.d (.list xs),s)else if q then none else some (.d (.list xs),lendPlace s p (.own xs true))
 |.undef|.skipped|.loc _|.agg _=>none|v=>some (v,s)
def q0f(P:Program)(t:TypeId):Option Nat:=(P.info? t).map (·.size)
def q8e(P:Program)(t:TypeId):Option Nat:=(P.info? t).map (·.bytes)
def tyAgg(P:Program)(t:TypeId):Option Bool:=match P.underlying t with|some (.struct _)|some (.array _ _)=>some true|some _=>some false|none=>none
def q3d(P:Program)(t:TypeId):Option Value:=(P.info? t).bind (·.zero)
def q1s(P:Program)(t:TypeId):Option TypeId:=match P.underlying t with|some (.slice e)=>some e|_=>none
def lendFrom(s:St)(o off:Nat):Nat->St|0=>s|n+1=>lendFrom (match q0i s.heap o off with|.own xs false=>lendPlace s (.cell o off) (.own xs true)|_=>s) o (off+1) n
def q33(s:St)(p:Place)(i off:Nat):Option (List D):=match content s p with|.own xs _=>(xs[i]?).map fun x=>x.cells.drop off|_=>none
def q3p(E:Env0)(fl:Flag)(q:Bool)(t:TypeId)(a:AV)(s:St):Option (AV×St):=match tyAgg E.P t,q0f E.P t with
 |some false,_=>match a with
  |.ptr o off=>readPlace fl q s (.cell o off)|.view (c::_)=>some (.d c,s)|.elt p i off=>match q33 s p i off with|some (c::_)=>some (.d c,s)|_=>none
  |_=>none
 |some true,some n=>match a with
  |.ptr o off=>match s.heap[o]? with|some cs=>if off+n<=cs.length then match q0s ((cs.drop off).take n)with|some ds=>if q5d ((cs.drop off).take n)then some (.d (.agg ds),s)else if q then none else some (.d (.agg ds),lendFrom s o off n)|none=>none else none|none=>none
  |.view cs=>if n<=cs.length then some (.d (.agg (cs.take n)),s)else none|.elt p i off=>match q33 s p i off with|some cs=>if n<=cs.length then some (.d (.agg (cs.take n)),s)else none|none=>none
  |_=>none
 |_,_=>none
def q7a(x:D)(off:Nat)(ds:List D):D:=match x with|.agg cs=>.agg (cs.take off++ds++cs.drop (off+ds.length))|_=>ds.headD x
def qa6:AV->Option Nat|.ptr o _=>some o|.loc (.cell o _)=>some o|.elt (.cell o _) _ _=>some o|.seg (.cell o _) _ _=>some o|_=>none
def hits(objs:List Nat)(v:AV):Bool:=v.placed&&(match qa6 v with|some o=>objs.contains o|none=>false)
def q11(objs:List Nat):Env->Env|[]=>[]|(k,v)::r=>if hits objs v then q7c (q11 objs r) k else(k,v)::q11 objs r
def q1r(a:AV)(vs:List AV)(s:St):Option St:=match a with
 |.ptr o off=>match s.heap[o]? with|some cs=>if off+vs.length<=cs.length then some {env:=if((cs.drop off).take vs.length++vs).any AV.isOwn then q11 [o] s.env else s.env,heap:=s.heap.set o (cs.take off++vs++cs.drop (off+vs.length))}else none|none=>none
 |.elt p i off=>match content s p,q0s vs with
  |.own xs false,some ds=>match xs[i]? with|some x=>if off+ds.length<=x.cells.length/\0<ds.length then some (lendPlace s p (.own (xs.set i (q7a x off ds)) false))else none|none=>none
  |_,_=>none
 |_=>none
def tmpOf:Operand->List Nat|.tmp t=>[t]|_=>[]
def qsd:AV->Bool|.d (.agg _)|.agg _|.tup _|.undef|.skipped|.loc _|.elt .. |.seg .. |.ref _=>false|_=>true
def q62(E:Env0)(t:TypeId)(a x:Operand)(s:St):Option St:=match q3f (ev E s x),tyAgg E.P t,q0f E.P t with|some v,some _,some n=>if v.cells.length=n/\v.cells.all qsd then q1r (ev E s a) v.cells (s.del (tmpOf x))else none|_,_,_=>none
def binV(op:BinOp)(x y:Value):Option Value:=match op,x,y with|.shl,.int k a,.int _ b=>if b<0 then none else some (.int k (k.wrap (a*2^(min b.toNat k.bits))))|.shr,.int k a,.int _ b=>if b<0 then none else some (.int k (a.fdiv (2^(min b.toNat k.bits))))|.add,.int k a,.int k' b=>if k=k' then some (.int k (k.wrap (a+b)))else none|.sub,.int k a,.int k' b=>if k=k' then some (.int k (k.wrap (a-b)))else none|.mul,.int k a,.int k' b=>if k=k' then some (.int k (k.wrap (a*b)))else none|.quo,.int k a,.int k' b=>if k=k'/\b≠0 then some (.int k (k.wrap (a.tdiv b)))else none|.rem,.int k a,.int k' b=>if k=k'/\b≠0 then some (.int k (a.tmod b))else none|.and,.int k a,.int k' b=>if k=k' then some (.int k (k.wrap ((BitVec.ofInt k.bits a)&&&(BitVec.ofInt k.bits b)).toNat))else none|.or,.int k a,.int k' b=>if k=k' then some (.int k (k.wrap ((BitVec.ofInt k.bits a)|||(BitVec.ofInt k.bits b)).toNat))else none|.xor,.int k a,.int k' b=>if k=k' then some (.int k (k.wrap ((BitVec.ofInt k.bits a)^^^(BitVec.ofInt k.bits b)).toNat))else none|.andNot,.int k a,.int k' b=>if k=k' then some (.int k (k.wrap ((BitVec.ofInt k.bits a)&&&~~~(BitVec.ofInt k.bits b)).toNat))else none|.eql,.int k a,.int k' b=>if k=k' then some (.bool (decide (a=b)))else none|.neq,.int k a,.int k' b=>if k=k' then some (.bool (!decide (a=b)))else none|.lss,.int k a,.int k' b=>if k=k' then some (.bool (decide (a<b)))else none|.leq,.int k a,.int k' b=>if k=k' then some (.bool (decide (a<=b)))else none|.gtr,.int k a,.int k' b=>if k=k' then some (.bool (decide (b<a)))else none|.geq,.int k a,.int k' b=>if k=k' then some (.bool (decide (b<=a)))else none|.add,.string ⟨⟨a⟩⟩,.string ⟨⟨b⟩⟩=>if a.length+b.length<=9223372036854775807 then some (.string ⟨⟨a++b⟩⟩)else none|.eql,.string ⟨⟨a⟩⟩,.string ⟨⟨b⟩⟩=>some (.bool (decide (a=b)))|.neq,.string ⟨⟨a⟩⟩,.string ⟨⟨b⟩⟩=>some (.bool (!decide (a=b)))|.lss,.string ⟨⟨a⟩⟩,.string ⟨⟨b⟩⟩=>some (.bool (Op.bytesLess a b))|.leq,.string ⟨⟨a⟩⟩,.string ⟨⟨b⟩⟩=>some (.bool (Op.bytesLess a b||decide (a=b)))|.gtr,.string ⟨⟨a⟩⟩,.string ⟨⟨b⟩⟩=>some (.bool (!(Op.bytesLess a b||decide (a=b))))|.geq,.string ⟨⟨a⟩⟩,.string ⟨⟨b⟩⟩=>some (.bool (!Op.bytesLess a b))|_,_,_=>none
def binT(P:Program)(op:BinOp)(t:TypeId)(x y:Value):Option Value:=match x,y with
 |.bool a,.bool b=>match op,P.underlying t with|.eql,some .bool=>some (.bool (a==b))|.neq,some .bool=>some (.bool (!(a==b)))|_,_=>none
 |x,y=>binV op x y
def unV(op:UnOp)(x:Value):Option Value:=match op,x with|.not,.bool b=>some (.bool (!b))|.neg,.int k n=>some (.int k (k.wrap (0-n)))|_,_=>none
def idxOf:AV->Option Int|.d (.v (.int _ n))=>some n|_=>none
def fillA(place:Nat->Option (Nat×Nat))(cells:List AV):List (Nat×AV)->Option (List AV)|[]=>some cells|(i,v)::r=>match place i with|some (off,size)=>if v.cells.length=size/\off+size<=cells.length then fillA place (cells.take off++v.cells++cells.drop (off+size)) r else none|none=>none
def q5e(E:Env0)(s:St):List (Nat×Operand)->Option (List (Nat×AV))|[]=>some []|(i,x)::r=>match q3f (ev E s x),q5e E (s.del (tmpOf x)) r with|some v,some vs=>some ((i,v)::vs)|_,_=>none
def allD:List AV->Option (List D)|[]=>some []|.d x::r=>(allD r).map (x::·)|_::_=>none
def qfb(cs:List AV):AV:=match allD cs with|some ds=>.d (.agg ds)|none=>.agg cs
def fieldPlace(P:Program)(t:TypeId)(i:Nat):Option (Nat×Nat):=match P.underlying t with
 |some (.struct fs)=>match fs[i]? with|some f=>(q0f P f.type).map fun n=>(f.offset,n)|none=>none
 |some (.array _ e)=>(q0f P e).map fun n=>(i*n,n)|_=>none
def qh1(P:Program)(t:TypeId):Bool:=match P.underlying t with|some (.struct fs)=>fs.all fun f=>(q0f P f.type).isSome|some (.array _ e)=>(q0f P e).isSome|_=>false
def q3j(P:Program)(t:TypeId)(i:Nat):Option (Nat×TypeId):=match P.underlying t with|some (.struct fs)=>(fs[i]?).map fun f=>(f.offset,f.type)|_=>none
def qcb(P:Program)(t:TypeId)(cs:List D)(off:Nat):Option D:=match tyAgg P t,q0f P t with|some true,some n=>if off+n<=cs.length then some (.agg ((cs.drop off).take n))else none|some false,_=>cs[off]?|_,_=>none
def q0a:Nat:=1073741824
def qyo(g:Bool)(n:Nat)(x:D):Bool:=x.cells.length==n&&(g==x.isAgg)&&decide (0<n)&&x.cells.all (fun c=>!c.isAgg)
def q3z(P:Program)(e:TypeId)(xs:List D):Bool:=match tyAgg P e,q0f P e with|some g,some n=>xs.all (qyo g n)|_,_=>false
def qjl(P:Program)(e:TypeId):Bool:=match q3d P e,q0f P e with|some z,some n=>z.cells.size==n|_,_=>false
def qw8(P:Program)(e:TypeId):Bool:=match q0f P e with|some n=>decide (n<=256)|none=>false
def q5j:Nat->List (Nat×Operand)->Bool|_,[]=>true|k,(i,_)::r=>i==k&&q5j (k+1) r
def q3v(len:Nat)(lo hi:Option AV):Option (Nat×Nat):=let h:Option Nat:=match hi with|none=>some len|some a=>match idxOf a with|some n=>if 0<=n/\n<=len then some n.toNat else none|none=>none
 match h with|none=>none|some h=>match lo with|none=>some (0,h)|some a=>match idxOf a with|some n=>if 0<=n/\n<=h then some (n.toNat,h)else none|none=>none
def segBase(s:St):AV->Option (Place×Nat×Nat×List D)
 |.loc p=>match content s p with|.own xs _=>some (p,0,xs.length,xs)|_=>none
 |.ref o=>match q0i s.heap o 0 with|.own xs _=>some (.cell o 0,0,xs.length,xs)|_=>none
 |.seg p lo hi=>match content s p with|.own xs _=>if hi<=xs.length then some (p,lo,hi-lo,xs)else none|_=>none
 |_=>none
def segOp(E:Env0)(t:TypeId)(a:AV)(lo hi mx:Option Operand)(s:St):Option AV:=match segBase s a,q1s E.P t,mx with
 |some (p,a0,n,xs),some e,none=>match q3v n (lo.map (ev E s)) (hi.map (ev E s))with|some (l,h)=>if q3z E.P e xs then some (.seg p (a0+l) (a0+h))else none|none=>none
 |_,_,_=>none
def q5l(E:Env0)(t:TypeId)(x:Operand)(lo hi mx:Option Operand)(s:St):Option AV:=match plainC E s x with
 |some (.v (.string ⟨⟨l⟩⟩))=>match mx,q3v l.length (lo.map (ev E s)) (hi.map (ev E s)),E.P.underlying t with|none,some (a,b),some .string=>some (.d (.v (.string ⟨⟨(l.take b).drop a⟩⟩)))|_,_,_=>none
 |some (.list xs)=>match q1s E.P t,q3v xs.length (lo.map (ev E s)) (hi.map (ev E s))with|some e,some (a,b)=>if q3z E.P e xs then match mx with|none=>some (.d (.list ((xs.take b).drop a)))|some _=>none else none|_,_=>none
 |_=>segOp E t (ev E s x) lo hi mx s
def lenA(E:Env0)(t:TypeId)(a:AV)(s:St):Option Nat:=match E.P.underlying t,a with
 |some .string,.d (.v (.string ⟨⟨l⟩⟩))=>some l.length|some (.slice _),.d (.list xs)=>some xs.length|some (.slice _),.loc p=>match content s p with|.own xs _=>some xs.length|_=>none
 |some (.slice _),.ref o=>match q0i s.heap o 0 with|.own xs _=>some xs.length|_=>none
 |some (.slice _),.seg p lo hi=>match content s p with|.own _ _=>some (hi-lo)|_=>none
 |_,_=>none
def q1v(E:Env0)(q:Bool)(t:TypeId)(x y:Operand)(s:St):Option (AV×St):=match plainC E s y,q1s E.P t with
 |some (.list ys),some e=>
  match q8e E.P e with|some b=>if 0<b/\b<=65536/\qjl E.P e/\q3z E.P e ys then match ev E s x with
    |.own xs l=>if xs.length+ys.length<=q0a/\q3z E.P e xs then some (.own (xs++ys) l,s)else none|.loc p=>match content s p with|.own xs l=>if q=false/\xs.length+ys.length<=q0a/\q3z E.P e xs then some (.own (xs++ys) l,setPlace s p .undef)else none|_=>none
    |_=>none else none|none=>none
 |_,_=>none
def q1c(E:Env0)(t:TypeId)(a:AV)(n:Int)(s:St):Option AV:=match E.P.underlying t,a with
 |some (.slice e),.loc p=>match content s p,q0f E.P e with|.own xs _,some sz=>if 0<=n then match xs[n.toNat]? with|some y=>if y.cells.length=sz then some (.elt p n.toNat 0)else none|none=>none else none|_,_=>none
 |some (.slice e),.ref o=>match q0i s.heap o 0,q0f E.P e with|.own xs _,some sz=>if 0<=n then match xs[n.toNat]? with|some y=>if y.cells.length=sz then some (.elt (.cell o 0) n.toNat 0)else none|none=>none else none|_,_=>none
 |some (.slice e),.seg p lo hi=>match content s p,q0f E.P e with|.own xs _,some sz=>if 0<=n/\n<((hi-lo:Nat):Int)then match xs[lo+n.toNat]? with|some y=>if y.cells.length=sz then some (.elt p (lo+n.toNat) 0)else none|none=>none else none|_,_=>none
 |some (.slice e),.d (.list xs)=>match q0f E.P e with|some sz=>if 0<=n then match xs[n.toNat]? with|some y=>if y.cells.length=sz then some (.view y.cells)else none|none=>none else none|none=>none
 |some (.array m e),.ptr o b=>match q0f E.P e with|some sz=>if 0<=n/\n<m/\1<m/\0<sz then some (.ptr o (b+n.toNat*sz))else none|none=>none
 |some (.array m e),.view cs=>match q0f E.P e with|some sz=>if 0<=n/\n<m/\1<m/\0<sz then some (.view (cs.drop (n.toNat*sz)))else none|none=>none
 |_,_=>none
def qr1(E:Env0)(t:TypeId)(x:D)(n:Int):Option D:=match E.P.underlying t,x with
 |some .string,.v (.string ⟨⟨l⟩⟩)=>if 0<=n then match l[n.toNat]? with|some b=>some (.v (.int .u8 b.toNat))|none=>none else none|some (.array m e),.agg cs=>match q0f E.P e with|some sz=>if 0<=n/\n<m then qcb E.P e cs (n.toNat*sz)else none|none=>none
 |_,_=>none
def qb3(E:Env0)(s:St):List Operand->Option (List (Nat×Nat))|[]=>some []|x::r=>match ev E s x,qb3 E s r with|.ptr o a,some ps=>some ((o,a)::ps)|_,_=>none
def copySrc(E:Env0)(s:St)(y:Operand):Option (List D):=match plainC E s y with|some (.list ys)=>some ys|_=>match ev E s y with
  |.seg p lo hi=>match content s p with|.own xs _=>if hi<=xs.length then some ((xs.take hi).drop lo)else none|_=>none
  |_=>none
def qdx(E:Env0)(t u:TypeId)(x y:Operand)(s:St):Option (AV×St):=match ev E s x,copySrc E s y,q1s E.P t,q1s E.P u with
 |.seg p lo hi,some ys,some e,some _=>match content s p with|.own xs false=>if hi<=xs.length/\q3z E.P e xs/\q3z E.P e ys then some (.d (.v (.int .i64 ((min (hi-lo) ys.length:Nat):Int))),lendPlace s p (.own (xs.take lo++ys.take (hi-lo)++xs.drop (lo+min (hi-lo) ys.length)) false))else none|_=>none
 |_,_,_,_=>none
def q2m(E:Env0)(q:Bool)(b:Builtin)(args:List Operand)(ts:List TypeId)(s:St):Option (AV×St):=match b,args,ts with
 |.len,[x],[t]=>(lenA E t (ev E s x) s).map fun(n:Nat)=>(AV.d (.v (.int .i64 (n:Int))),s)|.max,[x,y],_=>match plainC E s x,plainC E s y with|some (.v (.int k a)),some (.v (.int _ b))=>some (.d (.v (.int k (if b>a then b else a))),s)|_,_=>none
 |.min,[x,y],_=>match plainC E s x,plainC E s y with|some (.v (.int k a)),some (.v (.int _ b))=>some (.d (.v (.int k (if b<a then b else a))),s)|_,_=>none
 |.append,[x,y],[t,u]=>if t=u then q1v E q t x y s else none|.copy,[x,y],[t,u]=>if q then none else qdx E t u x y s|_,_,_=>none
def eqV(P:Program)(t:TypeId)(a b:Value):Option Bool:=match P.underlying t,a,b with|some .bool,.bool a,.bool b=>some (a==b)|some (.int _),.int k a,.int k' b=>if k=k' then some (decide (a=b))else none|some .string,.string ⟨⟨a⟩⟩,.string ⟨⟨b⟩⟩=>some (decide (a=b))|_,_,_=>none
def eqFs(P:Program)(xs ys:List D):List Field->Option Bool|[]=>some true|f::r=>if f.name= "_"then none else match qcb P f.type xs f.offset,qcb P f.type ys f.offset with
  |some (.v a),some (.v b)=>match eqV P f.type a b,eqFs P xs ys r with|some x,some y=>some (x&&y)|_,_=>none
  |_,_=>none
def eqAgg(P:Program)(op:BinOp)(t:TypeId)(xs ys:List D):Option Bool:=match P.underlying t with|some (.struct fs)=>if P.stoodInHeld t=false/\P.eqGuardType P.depth t=false then match op,eqFs P xs ys fs.toList with|.eql,some b=>some b|.neq,some b=>some (!b)|_,_=>none else none|_=>none
def qc2:TypeId:=1000000000
def qu4:D->Bool|.v (.int .u8 _)=>true|_=>false
def qz3:D->UInt8|.v (.int _ n)=>UInt8.ofNat n.toNat|_=>0
def q89(E:Env0)(src dst:TypeId)(x:Operand)(s:St):Option AV:=match q1s E.P src,E.P.underlying dst,plainC E s x with
 |some e,some .string,some (.list xs)=>match E.P.underlying e with|some (.int .u8)=>if xs.all qu4 then some (.d (.v (.string ⟨⟨xs.map qz3⟩⟩)))else none|_=>none
 |_,_,_=>none
def q01(E:Env0)(fl:Flag)(q:Bool)(op:Op)(s:St):Option (AV×St):=match op with
 |.move (.tmp t)=>readPlace fl q s (.slot t)|.move x=>(qpi (ev E s x)).map fun v=>(v,s)|.assign x=>(moveU (ev E s x)).map fun v=>(v,s)|.pick c a b=>match ev E s c with|.d (.v (.bool t))=>(plainC E s (if t then a else b)).map fun x=>(.d x,s)|_=>none
 |.alloc e=>(q3d E.P e).map fun z=>(.ptr s.heap.length 0,{s with heap:=s.heap++[(q0j z).cells]})|.box e x=>match q3f (ev E s x),q0f E.P e with|some v,some n=>if v.cells.length=n then some (.ptr s.heap.length 0,{s with heap:=s.heap++[v.cells]})else none|_,_=>none
 |.build t parts=>match q3d E.P t,q5e E s parts.toList with|some (.agg z),some ps=>if qh1 E.P t then(fillA (fieldPlace E.P t) (z.toList.map q08) ps).map fun cs=>(qfb cs,s)else none|_,_=>none
 |.buildSlice t n parts=>match q1s E.P t,plainsC E s (parts.toList.map (·.2))with|some e,some xs=>if q5j 0 parts.toList/\xs.length=n/\n<=65536/\q3z E.P e xs/\qjl E.P e/\qw8 E.P e then some (.own xs false,s)else none|_,_=>none
 |.load t a=>q3p E fl q t (ev E s a) s|.nilCheck x=>match ev E s x with|.ptr o off=>some (.ptr o off,s)|.view cs=>some (.view cs,s)|.elt p i off=>if(content s p).isOwn then some (.elt p i off,s)else none|.fn f cs=>some (.fn f cs,s)|_=>none
 |.binOp op t x y _=>match plainC E s x,plainC E s y with|some (.v a),some (.v b)=>(binT E.P op t a b).map fun r=>(.d (.v r),s)|some (.agg xs),some (.agg ys)=>(eqAgg E.P op t xs ys).map fun r=>(.d (.v (.bool r)),s)|_,_=>none
 |.unOp op _ x=>match plainC E s x with|some (.v a)=>(unV op a).map fun r=>(.d (.v r),s)|_=>none
 |.convert src dst x=>if src=qc2 then(q89 E src dst x s).map fun v=>(v,s)else match E.P.underlying src,E.P.underlying dst,plainC E s x with|some (.int _),some (.int k),some (.v (.int _ n))=>some (.d (.v (.int k (k.wrap n))),s)|some .string,some .string,some (.v (.string b))=>some (.d (.v (.string b)),s)|_,_,_=>none
 |.makeSlice t l c=>match q1s E.P t,plainC E s l,plainC E s c with
  |some e,some (.v (.int .i64 n)),some (.v (.int .i64 m))=>match(q3d E.P e).bind fun z=>q4i (q0j z),q8e E.P e with|some x,some b=>if n=m/\0<=n/\n<=65536/\b<=65536/\q3z E.P e [x]then some (.own (List.replicate n.toNat x) false,s)else none|_,_=>none
  |_,_,_=>none
 |.slice t x lo hi mx=>(q5l E t x lo hi mx s).map fun v=>(v,s)|.fieldAddr t x i=>match q3j E.P t i with
  |some (off,u)=>match q0f E.P u with
   |some (_+1)=>match ev E s x with|.ptr o a=>some (.ptr o (a+off),s)|.view cs=>some (.view (cs.drop off),s)|.elt p k a=>if(content s p).isOwn then some (.elt p k (a+off),s)else none|_=>none
   |_=>none
  |none=>none
 |.field t x i=>match plainC E s x,q3j E.P t i with|some (.agg cs),some (off,u)=>(qcb E.P u cs off).map fun y=>(.d y,s)|_,_=>none
 |.indexAddr t x i=>match idxOf (ev E s i)with|some n=>(q1c E t (ev E s x) n s).map fun v=>(v,s)|none=>none
 |.index t x i=>match idxOf (ev E s i),plainC E s x with|some n,some y=>(qr1 E t y n).map fun z=>(.d z,s)|_,_=>none
 |.extract (.tmp t) i=>match get s.env t with
  |.tup vs=>match vs[i]? with|some (.d x)=>some (.d x,s)|some (.ptr o a)=>some (.ptr o a,s)|some .undef=>some (.undef,s)|_=>none
  |_=>none
 |.makeFunc (.func f) first caps=>if first.size=0 then(qb3 E s caps.toList).map fun ps=>(.fn f ps,s)else none|.call {callee:=.builtin b,args,argTypes}=>q2m E q b args.toList argTypes.toList s|_=>none
def q05:AV->List Nat|.ptr o _=>[o]|.ref o=>[o]|.fn _ cs=>cs.map (·.1)|_=>[]
def q4q(seen:List Nat):List Nat->List Nat|[]=>seen|o::r=>q4q (if seen.contains o then seen else seen++[o]) r
def reach(h:Heap):Nat->List Nat->Option (List Nat)|0,_=>none|n+1,seen=>if(q4q seen (seen.flatMap fun o=>((h[o]?).getD []).flatMap q05)).length=seen.length then some seen else reach h n (q4q seen (seen.flatMap fun o=>((h[o]?).getD []).flatMap q05))
def q4e(h:Heap):List Nat->Option Heap|[]=>some []|o::r=>match h[o]?,q4e h r with|some cs,some hs=>some (cs::hs)|_,_=>none
def renAV(ρ:Nat->Nat):AV->AV|.ptr o a=>.ptr (ρ o) a|.ref o=>.ref (ρ o)|.fn f cs=>.fn f (cs.map fun(o,a)=>(ρ o,a))|v=>v
def argOf(E:Env0)(s:St)(x:Operand):Option AV:=match ev E s x with|.ptr o a=>some (.ptr o a)|.fn f cs=>some (.fn f cs)|.view cs=>some (.view cs)|.ref o=>some (.ref o)|_=>(plainC E s x).map .d
def qaw(E:Env0)(s:St):List Operand->Option (List AV)|[]=>some []|x::r=>match argOf E s x,qaw E s r with|some v,some vs=>some (v::vs)|_,_=>none
def outOf:AV->Option AV|.ptr o a=>some (.ptr o a)|.ref o=>some (.ref o)|.fn f cs=>some (.fn f cs)|v=>(q4i v).map .d
def q55(P:Program)(s:St):ResultVar->Option AV|.tmp t=>outOf (get s.env t)|.cell a t=>match get s.env a with
  |.ptr o off=>match tyAgg P t,q0f P t,s.heap[o]? with
   |some true,some n,some cs=>if off+n<=cs.length then(q0s ((cs.drop off).take n)).map fun ds=>.d (.agg ds)else none|some false,_,some cs=>match cs[off]? with|some v=>outOf v|none=>none
   |_,_,_=>none
  |_=>none
def q1m(P:Program)(s:St):List ResultVar->Option (List AV)|[]=>some []|x::r=>match q55 P s x,q1m P s r with|some v,some vs=>some (v::vs)|_,_=>none
inductive Ex where|normal|exit(id:Nat)|ret deriving DecidableEq,Inhabited
def q2o:Nat->List AV->Env|_,[]=>[]|k,v::r=>(k,v)::q2o (k+1) r
def qhl:ResultVar->Bool|.tmp _=>true|.cell .. =>false
def q7w(s:St)(k:Nat):ResultVar->Bool|.tmp _=>true|.cell a _=>match get s.env a with|.ptr o _=>decide (k<=o)|_=>false
def q0o:List AV->AV|[v]=>v|vs=>.tup vs
def qgg:AV->Bool|.tup [.ref _,.ref _]=>true|_=>false
def leave(P:Program)(fn:Func)(k:Nat)(s:St):Option (AV×Heap):=match q1m P s fn.results.toList with|none=>none|some vs=>if qgg (q0o vs)then none else if((vs.flatMap q05)++((s.heap.take k).flatMap fun cs=>cs.flatMap q05)).all (fun o=>decide (o<k))then if fn.results.toList.all (q7w s k)&&decide (k<=s.heap.length)then some (q0o vs,s.heap.take k)else none else if fn.results.toList.all qhl&&((vs.flatMap q05)++(s.heap.flatMap fun cs=>cs.flatMap q05)).all (fun o=>decide (o<s.heap.length))then some (q0o vs,s.heap)else none
def q2r(m:Nat)(h:Heap):Bool:=(h.take m).all fun cs=>cs.all fun c=>(q05 c).all fun o=>decide (o<m)
def qmk(P:Program)(fn:Func)(k:Nat)(s:St):Option (AV×Heap):=match fn.results.toList with
 |[.tmp t]=>match get s.env t with|.own xs false=>if q2r k s.heap&&decide (k<=s.heap.length)then some (.ref k,s.heap.take k++[[.own xs false]])else none|_=>none
 |[.cell a t]=>match get s.env a,tyAgg P t,q0f P t with
  |.ptr o 0,some true,some 1=>match content s (.cell o 0)with|.own xs false=>if q2r k s.heap&&decide (k<=o)&&decide (k<=s.heap.length)then some (.tup [.ref k,.ref k],s.heap.take k++[[.own xs false]])else none|_=>none
  |_,_,_=>none
 |_=>none
def qbh(own:Bool)(P:Program)(fn:Func)(k:Nat)(s:St):Option (AV×Heap):=if own then qmk P fn k s else leave P fn k s
def q7v(keep:Bool)(k:Nat)(q:AV×Heap):AV×Heap:=match q.1 with|.ref o=>if decide (o=k)&&q2r k q.2 then match q.2.drop k with|[[.own xs false]]=>(if keep then .own xs false else .d (.list xs),q.2.take k)|_=>q else q|.tup [.ref o,.ref _]=>if decide (o=k)&&q2r k q.2 then match q.2.drop k with|[[.own xs false]]=>(if keep then .agg [.own xs false]else .d (.agg [.list xs]),q.2.take k)|_=>(.undef,q.2)else(.undef,q.2)|_=>q
structure Rule where
 draws:Bool
 mode:Nat
 keep:Bool:=false
 calm:Nat->Bool:=fun _=>false
 free:Option Nat:=none
def q17(ops:Array Oper)(s:St)(o:Oper):Option Bool:=match o.guard with|none=>some true|some (j,want)=>match((ops[j]?).bind (·.dst)).map (get s.env)with|some (.d (.v (.bool b)))=>some (b==want)|some .skipped=>some false|_=>none
def above(m o:Nat):Bool:=!(m.testBit o)
def q4f(E:Env0)(r:Rule)(s:St)(op:Op):Bool:=!r.draws||r.mode==0||(match op with
  |.load _ x=>match ev E s x with|.ptr o _=>above r.mode o|.view _=>true|.elt (.slot t) _ _=>r.calm t|_=>false
  |_=>true)
def stirs:Op->Bool|.store .. |.alloc _|.box .. |.buildSlice .. |.makeSlice .. =>true|.call {callee:=.builtin .append,.. }=>true|.call {callee:=.builtin .copy,.. }=>true|.call {callee:=.value _,.. }=>true|.convert src _ _=>src==qc2|_=>false
def q1n:Op->Bool|.call {callee:=.value _,.. }=>true|_=>false
def isNew:Op->Bool
 |.alloc _|.buildSlice .. |.makeSlice .. =>true|.convert src _ _=>src==qc2|.call {callee:=.builtin .append,args,.. }=>match args.toList with|[.const (.slice none 0 0),_]=>true|_=>false
 |_=>false
def qhi(ops:Array Oper)(o:Oper):Bool:=(List.range ops.size).any fun j=>match ops[j]? with|some oj=>stirs oj.op&&!isNew oj.op&&!(oj.after.any fun e=>Region.binds .any e&&((ops[e.on]?).bind (·.dst))==o.dst)&&!(o.after.any fun e=>Region.binds .any e&&e.on==j)|none=>false
def q5u(op:Op):List Nat:=op.operands.toList.flatMap tmpOf
def q5m(o:Oper):List Nat:=o.dst.toList++q5u o.op
def q19:Op->Bool|.store .. =>true|_=>false
def q3g(ops:Array Oper)(o:Oper):Bool:=(List.range ops.size).any fun k=>match ops[k]? with|some ok=>(match ok.op with|.load .. =>true|_=>false)&&!(o.after.any fun e=>Region.binds .any e&&e.on==k)|none=>false
def peeks(an:An)(f:Nat)(t:Nat)(o:Oper):Bool:=match o.op,o.dst with|.move (.tmp u),some d=>u==t&&d !=t&&decide (an.flag f d=.keep)|_,_=>false
def qga(an:An)(f:Nat)(ops:Array Oper)(t:Nat):Bool:=ops.toList.all fun o=>(!stirs o.op||q1n o.op||isNew o.op||(q19 o.op&&!q3g ops o))&&(!(q5m o).contains t||peeks an f t o)
def freeB(fr:Option Nat)(o:Oper):Bool:=fr.isSome&&o.dst==fr
def qao(an:An)(f:Nat)(r:Rule)(ops:Array Oper)(o:Oper):Rule:={draws:=r.draws&&qhi ops o&&!freeB r.free o,mode:=r.mode,calm:=qga an f ops}
def qc9(r:Rule)(ops:Array Oper)(o:Oper):Rule:={draws:=r.draws&&q3g ops o,mode:=r.mode}
def qdk(E:Env0)(r:Rule)(s:St)(a:Operand):Bool:=!r.draws||r.mode==0||(match ev E s a with|.ptr o _=>!above r.mode o|_=>true)
def sameV:Value->Value->Bool|.int k a,.int l b=>k==l&&a==b|.bool a,.bool b=>a==b|.string ⟨⟨a⟩⟩,.string ⟨⟨b⟩⟩=>a==b|.pointer none,.pointer none=>true|_,_=>false
mutual
def sameD : D -> D -> Bool
 | .v x, .v y => sameV x y
 | .list xs, .list ys => qhd xs ys
 | .agg xs, .agg ys => qhd xs ys
 | _, _ => false
def qhd : List D -> List D -> Bool
 | [], [] => true
 | x :: r, y :: r' => sameD x y && qhd r r'
 | _, _ => false
end
mutual
def sameA : AV -> AV -> Bool
 | .undef, .undef => true
 | .skipped, .skipped => true
 | .d x, .d y => sameD x y
 | .own xs l, .own ys m => qhd xs ys && l == m
 | .loc p, .loc q => decide (p = q)
 | .elt p i o, .elt q j u => decide (p = q) && i == j && o == u
 | .seg p i o, .seg q j u => decide (p = q) && i == j && o == u
 | .ptr o a, .ptr p b => o == p && a == b
 | .view xs, .view ys => qhd xs ys
 | .fn f cs, .fn g ds => f == g && cs == ds
 | .ref o, .ref p => o == p
 | .agg cs, .agg ds => qjh cs ds
 | .tup cs, .tup ds => qjh cs ds
 | _, _ => false
def qjh : List AV -> List AV -> Bool
 | [], [] => true
 | x :: r, y :: r' => sameA x y && qjh r r'
 | _, _ => false
end
def qi8:Env->Env->Bool|[],[]=>true|(k,x)::r,(l,y)::r'=>k==l&&sameA x y&&qi8 r r'|_,_=>false
def qdb:Heap->Heap->Bool|[],[]=>true|x::r,y::r'=>qjh x y&&qdb r r'|_,_=>false
def y3w(s t:St):Bool:=qi8 s.env t.env&&qdb s.heap t.heap
theorem y63:∀{x y:Value},sameV x y=true->x=y:=by intro x y h;unfold sameV at h;grind
mutual
theorem qzc : ∀ {x y : D}, sameD x y = true -> x = y
 | .v x, .v y, h => congrArg D.v (y63 (by simpa [sameD] using h))
 | .list xs, .list ys, h => congrArg D.list (qbu (by simpa [sameD] using h))
 | .agg xs, .agg ys, h => congrArg D.agg (qbu (by simpa [sameD] using h))
 | .v _, .list _, h => by simp [sameD] at h
 | .v _, .agg _, h => by simp [sameD] at h
 | .list _, .v _, h => by simp [sameD] at h
 | .list _, .agg _, h => by simp [sameD] at h
 | .agg _, .v _, h => by simp [sameD] at h
 | .agg _, .list _, h => by simp [sameD] at h
theorem qbu : ∀ {x y : List D}, qhd x y = true -> x = y
 | [], [], _ => rfl
 | x :: r, y :: r', h => by
  simp only [qhd, aT] at h;rw [qzc h.1, qbu h.2]
 | [], _ :: _, h => by simp [qhd] at h
 | _ :: _, [], h => by simp [qhd] at h
end
mutual
theorem qyz : ∀ {x y : AV}, sameA x y = true -> x = y
 | x, y, h => by
  cases x <;> cases y <;> simp only [sameA, aT, beq_iff_eq, dT', fT] at h
  .rfl
  .rfl
  .rw [qzc h]
  .rw [qbu h.1, h.2]
  .rw [h]
  .rw [h.1.1, h.1.2, h.2]
  .rw [h.1.1, h.1.2, h.2]
  .rw [h.1, h.2]
  .rw [qbu h]
  .rw [h.1, h.2]
  .rw [h]
  .rw [qh6 h]
  .rw [qh6 h]
theorem qh6 : ∀ {x y : List AV}, qjh x y = true -> x = y
 | [], [], _ => rfl
 | x :: r, y :: r', h => by
  simp only [qjh, aT] at h;rw [qyz h.1, qh6 h.2]
 | [], _ :: _, h => by simp [qjh] at h
 | _ :: _, [], h => by simp [qjh] at h
end
theorem qq2:∀{x y:Env},qi8 x y=true->x=y|[],[],_=>rfl|(k,x)::r,(l,y)::r',h=>by simp only[qi8,aT,beq_iff_eq]at h;rw[h.1.1,qyz h.1.2,qq2 h.2]|[],_::_,h=>by simp[qi8]at h|_::_,[],h=>by simp[qi8]at h
theorem qnr:∀{x y:Heap},qdb x y=true->x=y|[],[],_=>rfl|x::r,y::r',h=>by simp only[qdb,aT]at h;rw[qh6 h.1,qnr h.2]|[],_::_,h=>by simp[qdb]at h|_::_,[],h=>by simp[qdb]at h
theorem y37{s t:St}(h:y3w s t=true):s=t:=by obtain⟨e,p⟩:=s;obtain⟨e',p'⟩:=t;simp only[y3w,aT]at h;rw[qq2 h.1,qnr h.2]
noncomputable instance(s t:St):Decidable (s=t):=match h:y3w s t with|true=>isTrue (y37 h)|false=>Classical.propDecidable _
noncomputable def agree:List (Option St)->Option St|[]=>none|[x]=>x|x::r=>match x,agree r with|some s,some t=>if s=t then some s else none|_,_=>none
def q0e(ops:Array Oper):List Nat->List Oper|[]=>[]|i::r=>match ops[i]? with|some o=>o::q0e ops r|none=>q0e ops r
def q5x(op:Op):List Nat:=match op with
 |.move (.tmp _)=>[]|.assign x|.box _ x|.move x=>tmpOf x|.build _ ps=>ps.toList.flatMap fun p=>tmpOf p.2|.call {callee:=.builtin .append,args,.. }=>match args.toList with|x::_=>tmpOf x|[]=>[]
 |_=>[]
def q0u(objs:List Nat)(base j:Nat):Nat:=match objs[j]? with|some o=>o|none=>base+(j-objs.length)
def q25(h:Heap):List Nat->Heap->Heap|o::os,cs::r=>q25 (h.set o cs) os r|_,_=>h
def q4c(s:St)(objs:List Nat)(h':Heap):St:={env:=q11 objs s.env,heap:=q25 s.heap objs (h'.map fun cs=>cs.map (renAV (q0u objs s.heap.length)))++(h'.drop objs.length).map fun cs=>cs.map (renAV (q0u objs s.heap.length))}
def qav(ρ:Nat->Nat):AV->AV|.tup us=>.tup (us.map (renAV ρ))|v=>renAV ρ v
def q4a(ops:Array Oper)(op:Op):Bool:=match op with
 |.call {callee:=.builtin .append,args,.. }=>match args.toList with|.tmp t::_=>ops.any fun o=>o.dst==some t&&(match o.op with|.move (.tmp _)|.load .. =>true|_=>false)|_=>false
 |.call {callee:=.builtin .copy,.. }=>true|.move (.tmp _)=>true|.load .. =>true|_=>false
def q42:AV->List Nat|.agg cs=>cs.flatMap q05|.tup cs=>cs.flatMap q05|.loc (.cell o _)=>[o]|.elt (.cell o _) _ _=>[o]|.seg (.cell o _) _ _=>[o]|v=>q05 v
def dropE(m:Nat):Env->Env|[]=>[]|(k,v)::r=>if(q42 v).all (fun o=>decide (o<m))then(k,v)::dropE m r else q7c (dropE m r) k
def trim(m:Nat)(s:St):St:=if q2r m s.heap then{env:=dropE m s.env,heap:=s.heap.take m}else s
def ρm(o' o0 o:Nat):Nat:=if o=o' then o0 else o
def q6y(ρ:Nat->Nat):AV->AV|.agg cs=>.agg (cs.map (renAV ρ))|.tup cs=>.tup (cs.map (renAV ρ))|v=>renAV ρ v
def qgk(ρ:Nat->Nat)(e:Env):Env:=e.map fun p=>(p.1,q6y ρ p.2)
def qac(s:St)(o:Nat):Bool:=(s.env.all fun p=>!(q42 p.2).contains o)&&s.heap.all fun cs=>cs.all fun c=>!(q05 c).contains o
def qhp(o' o0:Nat)(s:St):St:={env:=qgk (ρm o' o0) (q0n s.env),heap:=((s.heap.set o0 (s.heap.getD o' [])).take o').map fun cs=>cs.map (renAV (ρm o' o0))}
def ptrTo(o:Nat):AV->Bool|.ptr o' _=>o'==o|_=>false
def qd7(k:Nat)(s:St):Nat->Option Nat|0=>none|m+1=>if k<=m/\qac s m=true/\(s.heap.getD m []).length=(s.heap.getD (s.heap.length-1) []).length then some m else qd7 k s m
def regain(k m:Nat):Nat->St->St|0,s=>s|n+1,s=>if m<s.heap.length/\(s.env.any fun p=>ptrTo (s.heap.length-1) p.2)=true then match qd7 k s m with|some o0=>regain k m n (qhp (s.heap.length-1) o0 s)|none=>s else s
def endRound(k m:Nat)(s:St):St:=trim m (regain k m 3 s)
def qaa(fl:Flag):Op->Bool|.alloc _=>true|.buildSlice .. |.makeSlice .. =>decide (fl=.view)|.convert src _ _=>src==qc2|.call {callee:=.builtin .append,args,.. }=>decide (fl=.view)&&(match args.toList with|[.const _,_]=>true|_=>false)|_=>false
def q7p(an:An)(f:Nat)(o:Oper):Option Nat:=match o.dst with|some t=>if qaa (an.flag f t) o.op then some t else none|none=>none
def q8v(ops:Array Oper)(o:Oper):List Nat:=match o.guard with
 |some (j,_)=>match ops[j]? with|some p=>p.dst.toList|none=>[]
 |none=>[]
def q9d(an:An)(f:Nat)(ops:Array Oper)(s:St):Bool:=ops.toList.all fun o=>match q7p an f o with
  |some t=>match get s.env t with|.undef=>true|_=>false
  |none=>true
def shareOf(s:St)(x:Operand):Option (Nat×List D):=match x with
 |.tmp u=>match get s.env u with
  |.own xs false=>some (u,xs)|.loc (.slot t)=>match get s.env t with|.own xs false=>some (t,xs)|_=>none
  |_=>none
 |_=>none
def shareCell(s:St)(x:Operand):Option (Nat×Nat×Nat×List D):=match x with
 |.tmp u=>match get s.env u with
  |.loc (.cell o off)=>match q0i s.heap o off with|.own xs false=>some (u,o,off,xs)|_=>none
  |_=>none
 |_=>none
def cellShared(s:St)(x:Operand):Bool:=match x with
 |.tmp u=>match get s.env u with|.loc (.cell _ _)=>true|_=>false
 |_=>false
def qh5(E:Env0)(s:St)(x:Operand):Option (AV×St×List (Nat×Nat)):=match shareOf s x with|some (t,xs)=>some (.ref s.heap.length,{env:=putE s.env t .undef,heap:=s.heap++[[.own xs false]]},[(s.heap.length,t)])|none=>match shareCell s x with|some (u,o,off,xs)=>some (.ref s.heap.length,{env:=q0n s.env,heap:=q0z s.heap o off .undef++[[.own xs false]]},[(s.heap.length,u)])|none=>match argOf E s x with|some v=>some (v,s,[])|none=>none
def q52(E:Env0)(s:St):List Operand->Option (List AV×St×List (Nat×Nat))|[]=>some ([],s,[])|x::r=>match qh5 E s x with
  |some (v,s1,l)=>match q52 E s1 r with|some (vs,s2,l')=>some (v::vs,s2,l++l')|none=>none
  |none=>none
def q4y(s:St)(l:List Operand):Bool:=l.any fun x=>(shareOf s x).isSome||cellShared s x
def qx2(o:Nat):AV->Bool|.ref o'=>o'==o|_=>false
def qxt(dst:Option Nat)(o t:Nat)(s:St):Option Nat:=match dst with|some d=>if qx2 o (get s.env d)then some d else if d=t then none else some t|none=>some t
def q5k(dst:Option Nat)(o t:Nat)(s:St):Option St:=match s.heap[o]?,qxt dst o t s with|some [.own xs false],some d=>if s.heap.length=o+1/\q2r o s.heap=true then some {env:=putE (dropE o (q0n s.env)) d (.own xs false),heap:=s.heap.take o}else none|some [.undef],_=>if s.heap.length=o+1/\q2r o s.heap=true then some {env:=dropE o s.env,heap:=s.heap.take o}else none|_,_=>none
def unshare(dst:Option Nat):List (Nat×Nat)->St->Option St|[],s=>some s|(o,t)::r,s=>match unshare dst r s with|some s1=>q5k dst o t s1|none=>none
def q8c(P:Program)(fn:Func)(c:Code):Option Code:=match c with
 |.seq (.region _ os0 false) (.seq (.seq (.region _ os1 false) (.cond (.tmp tc) (.seq (.region _ os2 false) .ret) .skip)) rest)=>match os0.toList,os1.toList,os2.toList,fn.results.toList with|[{dst:=some r0,op:=.assign (.const (.slice none 0 0)),guard:=none,.. }],[{dst:=some t1,op:=.move (.tmp 0),guard:=none,.. },{dst:=some t2,op:=.binOp .eql ty (.tmp t3) (.const (.slice none 0 0)) _,guard:=none,.. }],[{dst:=some r2,op:=.assign (.const (.slice none 0 0)),guard:=none,.. }],[.tmp r]=>if r0=r/\r2=r/\t3=t1/\t2=tc/\r≠0/\t1≠0/\t2≠0/\t1≠t2/\(q1s P ty).isSome=true then some rest else none|_,_,_,_=>none
 |_=>none
def qe0(P:Program)(fn:Func)(c:Code):Code:=match q8c P fn c with|some c'=>c'|none=>c
def q48(P:Program)(fn:Func)(c:Code)(vs:List AV)(hp:Heap)(r:Option (AV×Heap)):Option (AV×Heap):=match q8c P fn c with|none=>r|some _=>match vs,hp with
  |[.d (.list [])],[]=>match r with|some (.ref 0,[[.own [] false]])=>r|_=>none
  |[.d (.list _)],[]=>r|_,_=>none
def q5o(an:An)(f:Nat)(r:Rule)(o:Oper):Rule:={r with keep:=match an.flag f (o.dst.getD 0)with|.keep=>true|.view=>false}
def qiv(step:Oper->St->Option St):List Oper->St->Option St|[],s=>some s|o::rest,s=>match step o s with|some s1=>qiv step rest s1|none=>none
def q3a:AV->List Nat|.tup us=>us.flatMap q05|c=>q05 c
def libA(m:List AV->Heap->Option (AV×Heap))(vs:List AV)(hp:Heap):Option (AV×Heap):=match m vs hp with|some q=>if((q3a q.1).all fun o=>decide (o<q.2.length))&&q2r q.2.length q.2 then some q else none|none=>none
def seekA(step:Int->Heap->Option (AV×Heap)):List Int->Heap->Option (AV×Heap)|[],hp=>some (.tup [.d (.v (.int .i64 0)),.d (.v (.bool false))],hp)|x::r,hp=>match step x hp with|some (.d (.v (.bool true)),hp1)=>some (.tup [.d (.v (.int .i64 x)),.d (.v (.bool true))],hp1)|some (.d (.v (.bool false)),hp1)=>seekA step r hp1|_=>none
def q9j(step:Int->Option (AV×Heap)):List Int->Bool
 |[]=>true|[x]=>match step x with|some (.tup [_,.d (.v (.bool false))],[])=>true|_=>false
 |x::y::r=>(match step x with|some (.tup [.d (.v (.int .i64 z)),.d (.v (.bool true))],[])=>decide (z=y)|_=>false)&&q9j step (y::r)
def qv0(E:Env0)(f:FuncId)(o:Oper)(s:St):Option St:=match o.op,o.guard,o.dst with
 |.load t (.tmp r),none,some d=>if E.an.flag f d=.keep then match tyAgg E.P t,q0f E.P t,get s.env r with
   |some true,some 1,.ptr p off=>match content s (.cell p off)with|.own xs false=>some ((setPlace s (.cell p off) .undef).put (some d) (.agg [.own xs false]))|_=>none
   |_,_,_=>none else none|_,_,_=>none
def q5i(E:Env0)(f:FuncId)(ops:Array Oper)(s:St):List Oper×St:=match ops.toList with|[]=>([],s)|o::l=>match qv0 E f o s with|some s1=>(l,s1)|none=>(o::l,s)
def twoOf(an:An)(f:FuncId):Code->Option (Nat×Array Oper×List Nat×List Nat)
 |.region id ops true=>match an.order f id with|[l1,l2]=>if an.mode f id=0 then some (id,ops,l1,l2)else none|_=>none
 |_=>none
noncomputable def joinQ(m:Nat):Option (Ex×St)->Option (Ex×St)->Option (Ex×St)|some (r1,q1),some (r2,q2)=>if r1=r2/\trim m q1=trim m q2 then some (r1,trim m q1)else none|_,_=>none
def y2r:List Nat->List Nat->Option Nat|i::l,j::l'=>if i=j then y2r l l' else some i|_,_=>none
def q3k(an:An)(f id:Nat)(ops:Array Oper):Rule:={draws:=true,mode:=an.mode f id,free:=match an.order f id with|[l1,l2]=>(y2r l1 l2).bind fun i=>(ops[i]?).bind (·.dst)|_=>none}
def clr(E:Env0)(f id:Nat)(s:St):St:={s with env:=q59 s.env (E.an.clear f id)}
def rule0:Rule:={draws:=false,mode:=0}
mutual
noncomputable def exec (E : Env0) (f : FuncId) (k : Nat) : Nat -> Code -> St -> Option (Ex × St)
 | 0, _, _ => none
 | n + 1, c, s =>
  match c with
  | .skip => some (.normal, s)
  | .label _ => some (.normal, s)
  | .region id ops draw =>
   match (if draw then if q9d E.an f ops s = false then none else agree ((E.an.order f id).map fun l => (qiv (fun o s => runOp E f (q3k E.an f id ops) ops n o s) (q0e ops l) s).map (clr E f id))
    else (qiv (fun o s => runOp E f { draws := false, mode := E.an.mode f id } ops n o s) (q5i E f ops s).1 (q5i E f ops s).2).map (clr E f id)) with
   | some s1 => some (.normal, s1)
   | none => none
  | .seq a b => match twoOf E.an f a with
   | some (id, ops, l1, l2) =>
    match qiv (fun o s => runOp E f rule0 ops n o s) (q0e ops l1) s, qiv (fun o s => runOp E f rule0 ops n o s) (q0e ops l2) s with
    | some s1, some s2 => joinQ s.heap.length (exec E f k n b { s1 with env := q59 s1.env (E.an.clear f id) }) (exec E f k n b { s2 with env := q59 s2.env (E.an.clear f id) })
    | _, _ => none
   | none => match exec E f k n a s with
    | some (.normal, s1) => exec E f k n b s1
    | r => r
  | .cond x a b => match ev E s x with
   | .d (.v (.bool t)) => exec E f k n (if t then a else b) s
   | _ => none
  | .block id b => match exec E f k n b s with
   | some (.exit id', s1) => if id' = id then some (.normal, trim s.heap.length s1) else some (.exit id', s1)
   | some (.normal, s1) => some (.normal, trim s.heap.length s1)
   | r => r
  | .loop b => match exec E f k n b s with
   | some (.normal, s1) => exec E f k n (.loop b) (endRound k s.heap.length s1)
   | r => r
  | .exit id => some (.exit id, s)
  | .ret => some (.ret, s)
  | _ => none
termination_by structural n => n
noncomputable def runOp (E : Env0) (f : FuncId) (r : Rule) (ops : Array Oper) : Nat -> Oper -> St -> Option St
 | 0, _, _ => none
 | n + 1, o, s =>
  match q17 ops s o with
  | none => none
  | some false => some (s.put o.dst .skipped)
  | some true =>
   match o.op with
   | .store t a x => if o.dst.isNone && qdk E (qc9 r ops o) s a then q62 E t a x s else none
   | .call { callee := .value g, args, .. } =>
    if q4y s args.toList then
     if r.draws then none else
     match ev E s g, q52 E s args.toList with
     | .fn h caps, some (vs, s1, l) => match callA E (q5o E.an f r o) n h (vs ++ caps.map fun (o, a) => .ptr o a) o.dst s1 with
      | some s2 => unshare o.dst l s2
      | none => none
     | _, _ => none
    else match ev E s g, qaw E s args.toList with
    | .fn h caps, some vs => callA E (q5o E.an f r o) n h (vs ++ caps.map fun (o, a) => .ptr o a) o.dst s
    | _, _ => none
   | op =>
    if q4f E (qao E.an f r ops o) s op then
     match q01 E (E.an.flag f (o.dst.getD 0)) (r.draws && !q4a ops op) op s with
     | some (v, s1) => some ((s1.del (q5x op)).put o.dst (q4d (E.an.flag f (o.dst.getD 0)) v))
     | none => none
    else none
termination_by structural n => n
noncomputable def callA (E : Env0) (r : Rule) : Nat -> FuncId -> List AV -> Option Nat -> St -> Option St
 | 0, _, _, _, _ => none
 | n + 1, h, vs, dst, s =>
  match reach s.heap (s.heap.length + 1) (q4q [] (vs.flatMap q05)) with
  | none => none
  | some objs =>
   if !r.draws || objs.all (fun o => !above r.mode o) then
    match q4e s.heap objs with
    | some hs =>
     match (call E n h (vs.map (renAV (objs.idxOf ·))) (hs.map fun cs => cs.map (renAV (objs.idxOf ·)))).map (q7v r.keep objs.length) with
     | some (v, h') =>
      if r.draws && decide (objs.length < h'.length) then none
      else some (St.put (q4c s objs h') dst (qav (q0u objs s.heap.length) v))
     | none => none
    | none => none
   else none
termination_by structural n => n
noncomputable def call (E : Env0) : Nat -> FuncId -> List AV -> Heap -> Option (AV × Heap)
 | 0, _, _, _ => none
 | n + 1, h, vs, hp =>
  if E.ok h then
   match E.lib h with
   | some m => match E.pre h with
    | some (g, k) => match call E n g vs hp with
     | some (v1, []) => libA (k v1) vs hp
     | _ => none
    | none => libA m vs hp
   | none =>
   match E.seek h with
   | some (nx, xs) => match vs with
    | [.fn g caps] => if q2r hp.length hp && q9j (fun x => call E n nx [.d (.v (.int .i64 x)), .d (.v (.int .i64 10))] []) xs then seekA (fun x hp => call E n g (.d (.v (.int .i64 x)) :: caps.map fun (o, a) => .ptr o a) hp) xs hp else none
    | _ => none
   | none =>
   match E.P.funcs[h]? with
   | some fn => match fn.body with
    | some c =>
     if vs.length <= fn.ntmps then
      match exec E h hp.length n (qe0 E.P fn c) { env := q2o 0 vs, heap := hp } with
      | some (.normal, s) => q48 E.P fn c vs hp (qbh (E.an.own h) E.P fn hp.length s)
      | some (.ret, s) => q48 E.P fn c vs hp (qbh (E.an.own h) E.P fn hp.length s)
      | _ => none
     else none
    | none => none
   | none => none
  else none
termination_by structural n => n
end
noncomputable def runOps(E:Env0)(f:FuncId)(r:Rule)(ops:Array Oper)(n:Nat)(l:List Oper)(s:St):Option St:=qiv (fun o s=>runOp E f r ops n o s) l s
theorem q6x{E:Env0}{r:Rule}{s:St}:runOps E f r ops n [] s=some s:=rfl
theorem q0q{E:Env0}{r:Rule}{o:Oper}{l:List Oper}{s:St}:runOps E f r ops n (o::l) s=match runOp E f r ops n o s with|some s1=>runOps E f r ops n l s1|none=>none:=rfl
theorem q4n(E:Env0)(f:FuncId)(k n id:Nat)(ops:Array Oper)(draw:Bool)(s:St):exec E f k (n+1) (.region id ops draw) s=match(if draw then if q9d E.an f ops s=false then none else agree ((E.an.order f id).map fun l=>(runOps E f (q3k E.an f id ops) ops n (q0e ops l) s).map (clr E f id))else(runOps E f {draws:=false,mode:=E.an.mode f id} ops n (q5i E f ops s).1 (q5i E f ops s).2).map (clr E f id))with|some s1=>some (.normal,s1)|none=>none:=rfl
end Go.Ab

namespace Go.Ab
variable {w w' : World} {d : D} {u v val : Value} {b o off t : Nat} {xs : List D} {lt : Bool} {c : AV} {s : St} {a a' : Act} {cs : List AV} {E : Env0}
inductive Loc where|slot(t j:Nat)|cell(o j:Nat)|blk(o:Nat)|res(j:Nat)deriving DecidableEq
inductive Home where|blk(b:Nat)|head(v:Value)
instance:Inhabited Home:=⟨.blk 0⟩
structure Cx where
 mu:List Home
 G:Nat->Option (Loc×Nat)amb:Nat->Nat->Prop
def Cx.imm(X:Cx)(b o:Nat):Prop:=X.amb b o/\∀l k,X.G b=some (l,k)->o<k
inductive Rep(w:World)(I:Nat->Nat->Prop):D->Value->Prop|v(x:Value)(h1:x.oneCell'=true):Rep w I (.v x) x|empty(a:Option Addr)(c:Nat):Rep w I (.list []) (.slice a 0 c)|list(xs:List D)(b off cap sz:Nat)(V:Nat->Nat->Value)(hs:∀x∈xs,x.cells.length=sz)(hc:xs.length<=cap)(h:∀(i:Nat)x,xs[i]?=some x->∀(j:Nat)c,x.cells[j]?=some c->w.cell? ⟨b,off+i*sz+j,none⟩=some (V i j)/\I b (off+i*sz+j))(hr:∀(i:Nat)x,xs[i]?=some x->∀(j:Nat)c,x.cells[j]?=some c->Rep w I c (V i j)):Rep w I (.list xs) (.slice (some ⟨b,off,none⟩) xs.length cap)|agg(cs:List D)(vs:Array Value)(hn:vs.size=cs.length)(hr:∀(j:Nat)c,cs[j]?=some c->Rep w I c (vs.getD j undef)):Rep w I (.agg cs) (.agg vs)
theorem Rep.mono{I I':Nat->Nat->Prop}(h:∀b o u,w.cell? ⟨b,o,none⟩=some u->I b o->w'.cell? ⟨b,o,none⟩=some u/\I' b o)(hr:Rep w I d v):Rep w' I' d v:=by induction hr with|v x h1=>exact .v x h1|empty a c=>exact .empty a c|list xs b off cap sz V hs hc hh _ ih=>exact .list xs b off cap sz V hs hc (fun i x hx j c hj=>h _ _ _ (hh i x hx j c hj).1 (hh i x hx j c hj).2) ih|agg cs vs hn _ ih=>exact .agg cs vs hn ih
structure Ext(X:Cx)(w:World)(X':Cx)(w':World):Prop where
 amb:X'.amb=X.amb
 size:w.heap.size<=w'.heap.size
 os:w'.os=w.os
 tape:w'.tape=w.tape
 output:w'.output=w.output
 free:∀b,b<w.heap.size->X.G b=none->X'.G b=none/\w'.heap[b]?=w.heap[b]?
 own:∀b l k,X.G b=some (l,k)->(∀l' k',X'.G b=some (l',k')->k<=k')/\∀o,o<k->w'.cell? ⟨b,o,none⟩=w.cell? ⟨b,o,none⟩
theorem Ext.refl(X:Cx)(w:World):Ext X w X w:=⟨rfl,Nat.le_refl _,rfl,rfl,rfl,fun _ _ h=>⟨h,rfl⟩,fun b l k h=>⟨fun l' k' h'=>(by simp_all),fun _ _=>rfl⟩⟩
theorem cell?_of_heap(h:w'.heap[b]?=w.heap[b]?)(o:Nat):w'.cell? ⟨b,o,none⟩=w.cell? ⟨b,o,none⟩:=by simp[World.cell?,h]
theorem Ext.trans{X X' X'':Cx}{w'':World}(hg:∀b l k,X.G b=some (l,k)->b<w.heap.size)(h:Ext X w X' w')(h':Ext X' w' X'' w''):Ext X w X'' w'':=by
 refine⟨h'.amb.trans h.amb,Nat.le_trans h.size h'.size,h'.os.trans h.os,h'.tape.trans h.tape,h'.output.trans h.output,fun b hb hn=>?_,fun b l k hk=>?_⟩;·obtain⟨h1,h2⟩:=h.free b hb hn;obtain⟨h3,h4⟩:=h'.free b (Nat.lt_of_lt_of_le hb h.size) h1;simp_all
 .obtain⟨h1,h2⟩:=h.own b l k hk;cases hx:X'.G b with|none=>obtain⟨h3,h4⟩:=h'.free b (Nat.lt_of_lt_of_le (hg b l k hk) h.size) hx;exact⟨fun l' k' e=>(by simp_all),fun o ho=>(cell?_of_heap h4 o).trans (h2 o ho)⟩|some y=>obtain⟨l1,k1⟩:=y;have hle:=h1 l1 k1 hx;obtain⟨h3,h4⟩:=h'.own b l1 k1 hx;grind
theorem Ext.point{X X':Cx}(h:Ext X w X' w')(hc:w.cell? ⟨b,o,none⟩=some u)(hi:X.imm b o):w'.cell? ⟨b,o,none⟩=some u/\X'.imm b o:=by have hb:b<w.heap.size:=World.block_lt_of_cell? w ⟨b,o,none⟩ hc;obtain⟨ha,hi⟩:=hi;cases hx:X.G b with|none=>obtain⟨h1,h2⟩:=h.free b hb hx;exact⟨(cell?_of_heap h2 o).trans hc,by rw[h.amb];omega,fun l k e=>by simp_all⟩|some y=>obtain⟨l,k⟩:=y;have hlt:=hi l k hx;obtain⟨h1,h2⟩:=h.own b l k hx;exact⟨(h2 o hlt).trans hc,by rw[h.amb];omega,fun l' k' e=>Nat.lt_of_lt_of_le hlt (h1 l' k' e)⟩
theorem Ext.rep{X X':Cx}(h:Ext X w X' w')(hr:Rep w X.imm d v):Rep w' X'.imm d v:=hr.mono fun _ _ _ hc hi=>h.point hc hi
def OwnOk(w:World)(X:Cx)(l:Loc)(xs:List D)(lent:Bool)(v:Value):Prop:=(xs=[]/\∃a,v=.slice a 0 0)\/(lent=true/\Rep w X.imm (.list xs) v/\∃a n,v=.slice a n n)\/(∃b cap cur e sz,v=.slice (some ⟨b,0,none⟩) xs.length cap/\X.G b=some (l,if lent then xs.length*sz else 0)/\w.heap[b]?=some (.cells cur e (0,0))/\(∀x∈xs,x.cells.length=sz)/\0<sz/\xs≠[]/\cur.size=cap*sz/\xs.length<=cap/\cap<=maxLen/\∀(i:Nat)x,xs[i]?=some x->∀(j:Nat)c,x.cells[j]?=some c->∃u,cur[i*sz+j]?=some u/\Rep w X.imm c u)
def RVl(w:World)(X:Cx)(l:Loc):AV->Value->Prop|.undef,_=>True|.skipped,v=>v=undef|.d x,v=>Rep w X.imm x v|.own xs lt,v=>OwnOk w X l xs lt v|.ptr o off,v=>∃b,X.mu[o]?=some (.blk b)/\v=.pointer (some ⟨b,off,none⟩)|.ref o,v=>X.mu[o]?=some (.head v)/\∃a n c,v=.slice a n c|.view cs,v=>∃b off,v=.pointer (some ⟨b,off,none⟩)/\∀(j:Nat)c,cs[j]?=some c->∃u,w.cell? ⟨b,off+j,none⟩=some u/\X.imm b (off+j)/\Rep w X.imm c u|.fn f caps,v=>∃vs:Array Value,v=.func (.func f) #[] vs/\vs.size=caps.length/\∀(j:Nat)o a,caps[j]?=some (o,a)->∃b,X.mu[o]?=some (.blk b)/\vs[j]?=some (.pointer (some ⟨b,a,none⟩))|.loc _,_|.elt _ _ _,_|.seg _ _ _,_|.agg _,_|.tup _,_=>False
def RVs(w:World)(X:Cx)(L:Nat->Loc):AV->Value->Prop|.agg cs,v=>∃vs:Array Value,v=.agg vs/\vs.size=cs.length/\∀(j:Nat)c,cs[j]?=some c->RVl w X (L j) c (vs.getD j undef)|.tup cs,v=>∃vs:Array Value,v=.tuple vs/\vs.size=cs.length/\∀(j:Nat)c,cs[j]?=some c->c.isOwn=false/\RVl w X (L j) c (vs.getD j undef)|c,v=>RVl w X (L 0) c v
def cval(X:Cx)(a:Act)(w:World):Place->Option Value|.slot t=>a.tmps[t]?|.cell o off=>match X.mu[o]? with|some (.blk b)=>w.cell? ⟨b,off,none⟩|some (.head v)=>if off=0 then some v else none|none=>none
def inR(s:St)(p:Place):Prop:=∀o off,p=.cell o off->o<s.heap.length
def RVe(X:Cx)(s:St)(a:Act)(w:World)(L:Nat->Loc):AV->Value->Prop|.loc p,v=>inR s p/\((content s p).isOwn=true->cval X a w p=some v)|.elt p i off,v=>inR s p/\∀xs l,content s p=.own xs l->∃b o0 n cap sz,cval X a w p=some (.slice (some ⟨b,o0,none⟩) n cap)/\(∀x∈xs,x.cells.length=sz)/\v=.pointer (some ⟨b,o0+i*sz+off,none⟩)|.seg p lo hi,v=>inR s p/\∀xs l,content s p=.own xs l->∃ad c',v=.slice ad (hi-lo) c'/\hi-lo<=c'/\(lo<hi->∃b o0 n cap sz,cval X a w p=some (.slice (some ⟨b,o0,none⟩) n cap)/\(∀x∈xs,x.cells.length=sz)/\ad=some ⟨b,o0+lo*sz,none⟩)|c,v=>RVs w X L c v
def HomeOk(w:World)(X:Cx)(o:Nat)(cs:List AV):Prop:=(∃b cur e,X.mu[o]?=some (.blk b)/\X.G b=some (.blk o,0)/\w.heap[b]?=some (.cells cur e (0,0))/\cur.size=cs.length/\∀(j:Nat)c,cs[j]?=some c->RVl w X (.cell o j) c (cur.getD j undef)/\True)\/∃v c,X.mu[o]?=some (.head v)/\cs=[c]/\RVl w X (.cell o 0) c v
structure Rel(E:Env0)(X:Cx)(s:St)(a:Act)(w:World):Prop where
 env:∀t,RVe X s a w (.slot t) (get s.env t) (a.tmps.getD t undef)bound:∀t,(∃v,get s.env t=v/\v≠.undef)->t<a.tmps.size
 mu:X.mu.length=s.heap.length
 heap:∀(o:Nat)cs,s.heap[o]?=some cs->HomeOk w X o cs
 gdom:∀b l k,X.G b=some (l,k)->b<w.heap.size
 amb:∀b o,w.heap.size<=b->X.amb b o
 oamb:∀b l k,X.G b=some (l,k)->∀o,X.amb b o
 glob:∀g cs,E.glob g=some cs->∀(j:Nat)c,cs[j]?=some c->∃u,w.cell? ⟨g,j,none⟩=some u/\X.imm g j/\Rep w X.imm c u
 defers:a.defers=[]
def q4t(X:Cx)(w:World)(X':Cx)(w':World)(l:Loc):Prop:=∀b k,X.G b=some (l,k)->X'.G b=some (l,k)/\w'.heap[b]?=w.heap[b]?
theorem OwnOk.ext{X X':Cx}{l l':Loc}(h:Ext X w X' w')(hk:∀b k,X.G b=some (l,k)->X'.G b=some (l',k)/\w'.heap[b]?=w.heap[b]?)(ho:OwnOk w X l xs lt v):OwnOk w' X' l' xs lt v:=by
 rcases ho with h0|⟨h1,h2,h3⟩|⟨b,cap,cur,e,sz,rfl,hg,hw,hs,hz,hne,hsz,hc,hm,hr⟩;·exact .inl h0
 .exact .inr (.inl ⟨h1,h.rep h2,h3⟩)
 .obtain⟨g1,g2⟩:=hk b _ hg;exact .inr (.inr ⟨b,cap,cur,e,sz,rfl,g1,g2.trans hw,hs,hz,hne,hsz,hc,hm,fun i x hx j c hj=>let⟨u,hu,hru⟩:=hr i x hx j c hj;⟨u,hu,h.rep hru⟩⟩)
theorem RVl.ext{X X':Cx}{l l':Loc}(h:Ext X w X' w')(hm:∀(o:Nat)b,X.mu[o]?=some b->X'.mu[o]?=some b)(hk:∀b k,X.G b=some (l,k)->X'.G b=some (l',k)/\w'.heap[b]?=w.heap[b]?)(hr:RVl w X l c v):RVl w' X' l' c v:=by cases c with|undef=>trivial|skipped=>exact hr|d x=>exact h.rep hr|own xs lt=>exact OwnOk.ext h hk hr|ptr o off=>obtain⟨b,hb,hv⟩:=hr;exact⟨b,hm o _ hb,hv⟩|view cs=>obtain⟨b,off,hv,hh⟩:=hr;exact⟨b,off,hv,fun j c hj=>let⟨u,h1,h2,h3⟩:=hh j c hj;⟨u,(h.point h1 h2).1,(h.point h1 h2).2,h.rep h3⟩⟩|fn f caps=>obtain⟨vs,hv,hn,hh⟩:=hr;exact⟨vs,hv,hn,fun j o a hj=>let⟨b,hb,hu⟩:=hh j o a hj;⟨b,hm o _ hb,hu⟩⟩|ref o=>exact⟨hm o _ hr.1,hr.2⟩|loc p=>exact hr|elt p i off=>exact hr|seg p i off=>exact hr|agg cs=>exact hr|tup cs=>exact hr
theorem RVs.ext{X X':Cx}{L L':Nat->Loc}(h:Ext X w X' w')(hm:∀(o:Nat)b,X.mu[o]?=some b->X'.mu[o]?=some b)(hk:∀j b k,X.G b=some (L j,k)->X'.G b=some (L' j,k)/\w'.heap[b]?=w.heap[b]?)(hr:RVs w X L c v):RVs w' X' L' c v:=by cases c with|agg cs=>obtain⟨vs,hv,hn,hh⟩:=hr;exact⟨vs,hv,hn,fun j c hj=>RVl.ext h hm (hk j) (hh j c hj)⟩|tup cs=>obtain⟨vs,hv,hn,hh⟩:=hr;exact⟨vs,hv,hn,fun j c hj=>⟨(hh j c hj).1,RVl.ext h hm (hk j) (hh j c hj).2⟩⟩|_=>exact RVl.ext (l:=L 0) (l':=L' 0) h hm (hk 0) (by simpa only[RVs]using hr)
theorem q1d{X:Cx}{L:Nat->Loc}(h:RVs w X L c v):RVe X s a w L c v:=by cases c with|loc p=>exact(h:False).elim|elt p i off=>exact(h:False).elim|seg p i off=>exact(h:False).elim|_=>exact h
theorem q38{X:Cx}{L:Nat->Loc}(hp:c.placed=false)(h:RVe X s a w L c v):RVs w X L c v:=by cases c with|loc p=>cases hp|elt p i off=>cases hp|seg p i off=>cases hp|_=>exact h
theorem HomeOk.ext{X X':Cx}(hE:Ext X w X' w')(hm:∀(o:Nat)b,X.mu[o]?=some b->X'.mu[o]?=some b)(hk:q4t X w X' w' (.blk o))(hc:∀(j:Nat)c,cs[j]?=some c->c≠.undef->q4t X w X' w' (.cell o j))(h:HomeOk w X o cs):HomeOk w' X' o cs:=by
 have leaf:∀(j:Nat)c v,cs[j]?=some c->RVl w X (.cell o j) c v->RVl w' X' (.cell o j) c v:=by
  intro j c v hj hr;by_cases hcu:c=.undef;·subst hcu;trivial
  .exact RVl.ext hE hm (hc j c hj hcu) hr
 rcases h with⟨b,cur,e,hb,hg,hw,hn,hh⟩|⟨v,c,hb,rfl,hr⟩;·obtain⟨g1,g2⟩:=hk b 0 hg;exact .inl ⟨b,cur,e,hm o _ hb,g1,g2.trans hw,hn,fun j c hj=>⟨leaf j c _ hj (hh j c hj).1,trivial⟩⟩
 .exact .inr ⟨v,c,hm o _ hb,rfl,leaf 0 c v rfl hr⟩
theorem HomeOk.cval{X X':Cx}(h:HomeOk w X o cs)(hm:∀(o:Nat)b,X.mu[o]?=some b->X'.mu[o]?=some b)(hk:q4t X w X' w' (.blk o))(hu:Ab.cval X a w (.cell o off)=some u):Ab.cval X' a' w' (.cell o off)=some u:=by
 rcases h with⟨b,cur,e,hb,hg,hw,hn,hh⟩|⟨v,c,hb,rfl,hr⟩;·simp only[Ab.cval,hb,hm o _ hb]at hu⊢;rw[cell?_of_heap (hk b 0 hg).2];omega
 .simp only[Ab.cval,hb,hm o _ hb]at hu⊢;omega
theorem HomeOk.cval_eq{X X':Cx}(h:HomeOk w X o cs)(hm:∀(o:Nat)b,X.mu[o]?=some b->X'.mu[o]?=some b)(hk:q4t X w X' w' (.blk o)):Ab.cval X' a' w' (.cell o off)=Ab.cval X a w (.cell o off):=by
 rcases h with⟨b,cur,e,hb,hg,hw,hn,hh⟩|⟨v,c,hb,rfl,hr⟩;·simp only[Ab.cval,hb,hm o _ hb];exact cell?_of_heap (hk b 0 hg).2 off
 .simp only[Ab.cval,hb,hm o _ hb]
theorem HomeOk.set{X X':Cx}{c':AV}(hE:Ext X w X' w')(hm:∀(o:Nat)b,X.mu[o]?=some b->X'.mu[o]?=some b)(hk:q4t X w X' w' (.blk o))(hc:∀(j:Nat),j≠off->q4t X w X' w' (.cell o j))(hv:Ab.cval X a w (.cell o off)=some val)(hnew:RVl w' X' (.cell o off) c' val)(h:HomeOk w X o cs):HomeOk w' X' o (cs.set off c'):=by
 rcases h with⟨b,cur,e,hb,hg,hw,hn,hh⟩|⟨v,c,hb,rfl,hr⟩
 .obtain⟨k1,k2⟩:=hk b 0 hg;refine .inl ⟨b,cur,e,hm o _ hb,k1,k2.trans hw,by simp_all,fun j c hj=>?_⟩;rw[List.getElem?_set]at hj;by_cases ej:off=j
  .subst ej;simp only[if_true]at hj;split at hj
   .rename_i hlt;cases hj;refine⟨?_,trivial⟩;have hval:cur.getD off undef=val:=by simp only[Ab.cval,hb]at hv;rw[cell_of_row w b off cur e (0,0) hw]at hv;simp[Array.getD_eq_getD_getElem?,hv]
    rw[hval];exact hnew
   simp_all
  .simp only[ej,if_false]at hj;exact⟨RVl.ext hE hm (hc j (fun e=>ej e.symm)) (hh j c hj).1,trivial⟩
 .simp only[Ab.cval,hb]at hv;split at hv;·rename_i h0;subst h0;cases hv;exact .inr ⟨_,c',hm o _ hb,rfl,hnew⟩
  simp_all
theorem HomeOk.less{X:Cx}{cs':List AV}(hl:cs'.length=cs.length)(hh:∀(j:Nat)c,cs'[j]?=some c->cs[j]?=some c\/c=.undef)(h:HomeOk w X o cs):HomeOk w X o cs':=by
 rcases h with⟨b,cur,e,hb,hg,hw,hn,h5⟩|⟨v,c,hb,rfl,hr⟩
 .refine .inl ⟨b,cur,e,hb,hg,hw,by omega,fun j c hj=>⟨?_,trivial⟩⟩;rcases hh j c hj with h1|rfl;·simp_all
  .trivial
 .match cs',hl with
  |[c'],_=>
   refine .inr ⟨v,c',hb,rfl,?_⟩;rcases hh 0 c' rfl with h1|rfl;·simp_all
   .trivial
theorem HomeOk.real{X:Cx}(h:HomeOk w X o cs)(hb:X.mu[o]?=some (.blk b)):∃cur e,X.G b=some (.blk o,0)/\w.heap[b]?=some (.cells cur e (0,0))/\cur.size=cs.length/\∀(j:Nat)c,cs[j]?=some c->RVl w X (.cell o j) c (cur.getD j undef)/\True:=by
 rcases h with⟨b',cur,e,hb',h⟩|⟨v,c,hb',_⟩;·rw[hb]at hb';cases hb';exact⟨cur,e,h⟩
 simp_all
theorem HomeOk.get{X:Cx}{j:Nat}(h:HomeOk w X o cs)(hj:cs[j]?=some c):∃v,Ab.cval X a w (.cell o j)=some v/\RVl w X (.cell o j) c v:=by
 rcases h with⟨b,cur,e,hb,hg,hw,hn,hh⟩|⟨v,c',hb,rfl,hr⟩
 .have hl:j<cur.size:=by grind
  refine⟨cur[j],?_,?_⟩;·simp only[Ab.cval,hb,cell_of_row w b j cur e (0,0) hw,hl,Array.getElem?_eq_getElem]
  .have:=(hh j c hj).1;simpa[Array.getD,hl]using this
 .cases j with|zero=>simp at hj;subst hj;exact⟨v,by simp[Ab.cval,hb],hr⟩|succ j=>grind
theorem q2a(e:Env)(t u:Nat)(v:AV):get (setE e t v) u=if t=u then v else get e u:=by induction e with|nil=>by_cases h:t=u<;>simp[setE,get,h]|cons p r ih=>
  obtain⟨k,x⟩:=p;simp only[setE];split;·by_cases h:t=u<;>simp[get,h]
  .split;·rename_i h1 h2;subst h2;by_cases h:t=u<;>simp[get,h]
   .rename_i h1 h2;simp only[get,ih];grind
theorem q6q(e:Env)(t u:Nat):get (q7c e t) u=if t=u then .undef else get e u:=by induction e with|nil=>by_cases h:t=u<;>simp[q7c,get,h]|cons p r ih=>
  obtain⟨k,x⟩:=p;simp only[q7c];split;·rename_i h;subst h;rw[ih];by_cases h:k=u<;>simp[get,h]
  .rename_i h;simp only[get,ih];grind
theorem q3n(e:Env)(u:Nat):get (q0n e) u=if(get e u).placed then .undef else get e u:=by induction e with|nil=>rfl|cons p r ih=>
  obtain⟨k,x⟩:=p;simp only[q0n];by_cases hx:x.placed=true;·simp only[hx,if_true,q6q,get];grind
  .simp only[hx,fT,if_false,get];grind
theorem qq7(t:Nat)(e:Env)(u:Nat):get (qat t e) u=if(get e u).sitsAt t then .undef else get e u:=by induction e with|nil=>rfl|cons p r ih=>
  obtain⟨k,x⟩:=p;simp only[qat];by_cases hx:x.sitsAt t=true;·simp only[hx,if_true,q6q,get];grind
  .simp only[hx,fT,if_false,get];grind
theorem qh0{v:AV}(h:v.sitsAt t=true):v.placed=true:=by
 unfold AV.sitsAt at h;split at h;·rfl
 .rfl
 .rfl
 grind
theorem y40{v:AV}(h:v.placed=false):v.sitsAt t=false:=by cases hs:v.sitsAt t with|false=>rfl|true=>rw[qh0 hs]at h;cases h
theorem q1i(e:Env)(t u:Nat)(v:AV):get (putE e t v) u=if t=u then v else if((get e t).isOwn||v.isOwn)&&(get e u).sitsAt t then .undef else get e u:=by
 have key:∀b:Bool,get (if b=true then qat t e else e) u=if b&&(get e u).sitsAt t then .undef else get e u:=by intro b;cases b<;>simp[qq7]
 cases v with|undef=>rw[show AV.undef.isOwn=false from rfl,Bool.or_false];simp only[putE,q6q,key]|own xs l=>rw[show(AV.own xs l).isOwn=true from rfl,Bool.or_true];simp only[putE,q2a,qq7,tA']|skipped=>rw[show AV.skipped.isOwn=false from rfl,Bool.or_false];simp only[putE,q2a,key]|d x=>rw[show(AV.d x).isOwn=false from rfl,Bool.or_false];simp only[putE,q2a,key]|loc p=>rw[show(AV.loc p).isOwn=false from rfl,Bool.or_false];simp only[putE,q2a,key]|elt p i off=>rw[show(AV.elt p i off).isOwn=false from rfl,Bool.or_false];simp only[putE,q2a,key]|seg p i off=>rw[show(AV.seg p i off).isOwn=false from rfl,Bool.or_false];simp only[putE,q2a,key]|ptr o off=>rw[show(AV.ptr o off).isOwn=false from rfl,Bool.or_false];simp only[putE,q2a,key]|view cs=>rw[show(AV.view cs).isOwn=false from rfl,Bool.or_false];simp only[putE,q2a,key]|fn f cs=>rw[show(AV.fn f cs).isOwn=false from rfl,Bool.or_false];simp only[putE,q2a,key]|ref o=>rw[show(AV.ref o).isOwn=false from rfl,Bool.or_false];simp only[putE,q2a,key]|agg cs=>rw[show(AV.agg cs).isOwn=false from rfl,Bool.or_false];simp only[putE,q2a,key]|tup cs=>rw[show(AV.tup cs).isOwn=false from rfl,Bool.or_false];simp only[putE,q2a,key]
def Cx.remap(X:Cx)(φ:Loc->Option Loc):Cx:={X with G:=fun b=>match X.G b with|some (l,k)=>(φ l).map fun l'=>(l',k)|none=>none}
theorem Cx.remap_some{X:Cx}{φ:Loc->Option Loc}{l:Loc}{k:Nat}(h:X.G b=some (l,k)):(X.remap φ).G b=(φ l).map fun l'=>(l',k):=by simp[Cx.remap,h]
theorem Ext.remap(X:Cx)(w:World)(φ:Loc->Option Loc):Ext X w (X.remap φ) w:=by refine⟨rfl,Nat.le_refl _,rfl,rfl,rfl,fun b _ h=>⟨by simp[Cx.remap,h],rfl⟩,fun b l k h=>⟨fun l' k' h'=>?_,fun _ _=>rfl⟩⟩;rw[Cx.remap_some h]at h';cases hl:φ l with|none=>simp_all|some l1=>simp_all
theorem OwnOk.frozen{X:Cx}{l:Loc}{φ:Loc->Option Loc}(hφ:φ l=none)(hamb:∀b l k,X.G b=some (l,k)->∀o,X.amb b o)(ho:OwnOk w X l xs lt v):Rep w (X.remap φ).imm (.list xs) v:=by
 rcases ho with⟨rfl,a,rfl⟩|⟨_,h2,_⟩|⟨b,cap,cur,e,sz,rfl,hg,hw,hs,hz,hne,hsz,hc,hm,hr⟩;·exact .empty a 0
 .exact(Ext.remap X w φ).rep h2
 .have hx:(X.remap φ).G b=none:=by rw[Cx.remap_some hg,hφ];rfl
  refine .list xs b 0 cap sz (fun i j=>cur.getD (i*sz+j) undef) hs hc (fun i x hx' j c hj=>?_) (fun i x hx' j c hj=>?_);·obtain⟨u,hu,_⟩:=hr i x hx' j c hj;refine⟨?_,hamb b _ _ hg _,fun l k e=>by rw[hx]at e;cases e⟩;rw[Nat.zero_add,cell_of_row w b _ cur e (0,0) hw,hu];simp_all
  .obtain⟨u,hu,hru⟩:=hr i x hx' j c hj;have:cur.getD (i*sz+j) undef=u:=by simp_all
   rw[this];exact(Ext.remap X w φ).rep hru
def Cx.lockAt(X:Cx)(b:Nat)(l:Loc)(k:Nat):Cx:={X with G:=fun b'=>if b'=b then some (l,k)else X.G b'}
def Loc.fixed:Loc->Bool|.res _=>false|_=>true
theorem Rel.bg{X X':Cx}(h:Rel E X s a w)(hE:Ext X w X' w')(hmu:X'.mu=X.mu)(hk:∀l,l.fixed=true->(∀t j,l=.slot t j->get s.env t≠.undef)->(∀o j,l=.cell o j->q0i s.heap o j≠.undef)->q4t X w X' w' l)(hd:∀b l k,X'.G b=some (l,k)->b<w'.heap.size/\∀o,X'.amb b o):Rel E X' s a w':=by
 have hm:∀(o:Nat)b,X.mu[o]?=some b->X'.mu[o]?=some b:=fun o b e=>by simp_all
 have hcell:∀o off u,cval X a w (.cell o off)=some u->(s.heap[o]?).isSome=true->cval X' a w' (.cell o off)=some u:=by intro o off u hu hs;cases hcs:s.heap[o]? with|none=>simp_all|some cs=>exact(h.heap o cs hcs).cval (a:=a) (a':=a) hm (hk (.blk o) rfl (by simp) (by simp)) hu
 have hown:∀o off,(content s (.cell o off)).isOwn=true->(s.heap[o]?).isSome=true:=by intro o off ho;simp only[content,q0i]at ho;cases hcs:s.heap[o]? with|none=>rw[hcs]at ho;cases ho|some cs=>rfl
 refine⟨fun t=>?_,h.bound,by rw[hmu];exact h.mu,fun o cs hcs=>?_,fun b l k e=>(hd b l k e).1,fun b o hb=>by rw[hE.amb];exact h.amb b o (Nat.le_trans hE.size hb),fun b l k e=>(hd b l k e).2,fun g cs hg j c hj=>?_,h.defers⟩;·have ht:=h.env t;generalize hgt:get s.env t=v at ht;cases v with
  |undef=>trivial|loc p=>refine⟨ht.1,fun ho=>?_⟩;cases p with|slot u=>exact ht.2 ho|cell o off=>exact hcell o off _ (ht.2 ho) (hown o off ho)
  |elt p i off=>refine⟨ht.1,fun xs l hc=>?_⟩;obtain⟨b,o0,n,cap,sz,h1,h2,h3⟩:=ht.2 xs l hc;refine⟨b,o0,n,cap,sz,?_,h2,h3⟩;cases p with|slot u=>exact h1|cell o off=>exact hcell o off _ h1 (hown o off (by rw[hc];rfl))
  |seg p lo hi=>refine⟨ht.1,fun xs l hc=>?_⟩;obtain⟨ad,c',h0,h00,hh⟩:=ht.2 xs l hc;refine⟨ad,c',h0,h00,fun hlt=>?_⟩;obtain⟨b,o0,n,cap,sz,h1,h2,h3⟩:=hh hlt;refine⟨b,o0,n,cap,sz,?_,h2,h3⟩;cases p with|slot u=>exact h1|cell o off=>exact hcell o off _ h1 (hown o off (by rw[hc];rfl))
  |_=>exact q1d (RVs.ext hE hm (fun j b k e=>hk (.slot t j) rfl (by simp_all) (by simp) b k e) (q38 rfl ht))
 .exact(h.heap o cs hcs).ext hE hm (hk (.blk o) rfl (by simp) (by simp)) (fun j c hj hcu b k e=>hk (.cell o j) rfl (by simp) (by rintro o' j' e';cases e';simp only[q0i,hcs,hj];grind) b k e)
 .obtain⟨u,h1,h2,h3⟩:=h.glob g cs hg j c hj;exact⟨u,(hE.point h1 h2).1,(hE.point h1 h2).2,hE.rep h3⟩
theorem q6d(a:Act)(t u:Nat)(v:Value)(h:t<a.tmps.size):(a.put (some t) v).tmps.getD u undef=if t=u then v else a.tmps.getD u undef:=by simp only[Act.put,Array.getD_eq_getD_getElem?];grind
theorem y9p(a:Act)(t u:Nat)(v:Value)(h:t≠u):(a.put (some t) v).tmps[u]?=a.tmps[u]?:=by simp[Act.put,h]
theorem Rel.put{X:Cx}(h:Rel E X s a w)(ht:t<a.tmps.size){v:AV}(hv:RVe X s a w .res v val):∃X',X'.mu=X.mu/\Ext X w X' w/\Rel E X' (s.put (some t) v) (a.put (some t) val) w:=by
 let φ:Loc->Option Loc:=fun|.slot t' j=>if t'=t then none else some (.slot t' j)|.res j=>some (.slot t j)|l=>some l;have hE:=Ext.remap X w φ;have hm:∀(o:Nat)b,X.mu[o]?=some b->(X.remap φ).mu[o]?=some b:=fun o b e=>e;have hk:∀l,(∀j,l≠.res j)->(∀j,l≠.slot t j)->q4t X w (X.remap φ) w l:=by intro l h1 h2 b k e;refine⟨?_,rfl⟩;rw[Cx.remap_some e];grind
 have hcv:∀p,p≠.slot t->cval (X.remap φ) (a.put (some t) val) w p=cval X a w p:=by intro p hp;cases p with|slot u=>exact y9p a t u val (fun e=>hp (by rw[e]))|cell o off=>rfl
 have hct:∀p,p≠.slot t->(content (s.put (some t) v) p).isOwn=true->content (s.put (some t) v) p=content s p:=by intro p hp ho;cases p with
  |slot u=>
   simp only[content,St.put,q1i]at ho⊢;have:t≠u:=fun e=>hp (by rw[e]);simp only[this,if_false]at ho⊢;split at ho;·cases ho
   simp_all|cell o off=>rfl
 have hplaced:∀(u:Nat)(c:AV)(x:Value),c.placed=true->(∀p,(c=.loc p\/∃i off,c=.elt p i off\/c=.seg p i off)->p=.slot t->v.isOwn=false)->RVe X s a w (.slot u) c x->∀L,RVe (X.remap φ) (s.put (some t) v) (a.put (some t) val) w L c x:=by intro u c x hp hno hc L;cases c with
  |loc p=>
   refine⟨hc.1,fun ho=>?_⟩;by_cases e:p=.slot t;·have hf:=hno p (.inl rfl) e;subst e;simp only[content,St.put,q1i,if_true]at ho;simp_all
   .rw[hcv p e];exact hc.2 (by grind)|elt p i off=>
   refine⟨hc.1,fun xs l hcc=>?_⟩;by_cases e:p=.slot t;·have hf:=hno p (.inr ⟨i,off,.inl rfl⟩) e;subst e;simp only[content,St.put,q1i,if_true]at hcc;rw[hcc]at hf;simp[AV.isOwn]at hf
   .rw[hcv p e];exact hc.2 xs l (by rw[<-hct p e (by rw[hcc];rfl)];omega)|seg p i off=>
   refine⟨hc.1,fun xs l hcc=>?_⟩;by_cases e:p=.slot t;·have hf:=hno p (.inr ⟨i,off,.inr rfl⟩) e;subst e;simp only[content,St.put,q1i,if_true]at hcc;rw[hcc]at hf;simp[AV.isOwn]at hf
   .rw[hcv p e];exact hc.2 xs l (by rw[<-hct p e (by rw[hcc];rfl)];omega)|_=>cases hp
 refine⟨X.remap φ,rfl,hE,⟨fun u=>?_,fun u hu=>?_,h.mu,fun o cs hcs=>?_,fun b l k e=>?_,h.amb,fun b l k e=>?_,fun g cs hg j c hj=>?_,by simpa[Act.put]using h.defers⟩⟩
 .rw[q6d a t u val ht];simp only[St.put,q1i];by_cases e:t=u
  .subst e;simp only[if_true];by_cases hp:v.placed=true;·refine hplaced t v val hp (fun p _ _=>by cases v<;>first|rfl|grind) ?_ _;cases v with|loc p=>exact hv|elt p i off=>exact hv|seg p i off=>exact hv|_=>cases hp
   .exact q1d (RVs.ext hE hm (fun j b k e=>⟨by rw[Cx.remap_some e];rfl,rfl⟩) (q38 (by simp_all) hv))
  .simp only[e,if_false];by_cases hkill:(((get s.env t).isOwn||v.isOwn)&&(get s.env u).sitsAt t)=true;·simp only[hkill,if_true];exact trivial
   .simp only[hkill];have hu:=h.env u;generalize hc:get s.env u=c at hu hkill;by_cases hp:c.placed=true
    .refine hplaced u c _ hp (fun p hcp hpt=>?_) hu _;have hsit:c.sitsAt t=true:=by subst hpt;rcases hcp with rfl|⟨i,off,rfl|rfl⟩<;>simp[AV.sitsAt]
     simp_all
    .have hp':c.placed=false:=by simp_all
     exact q1d (RVs.ext hE hm (fun j b k e'=>hk (.slot u j) (fun _=>by simp) (fun _=>by grind) b k e') (q38 hp' hu))
 .rw[show(a.put (some t) val).tmps.size=a.tmps.size by simp[Act.put]];obtain⟨c,hc,hne⟩:=hu;simp only[St.put,q1i]at hc;by_cases e:t=u;·omega
  .simp only[e,if_false]at hc;split at hc;·simp_all
   .exact h.bound u ⟨c,hc,hne⟩
 .exact(h.heap o cs hcs).ext hE hm (hk (.blk o) (fun _=>by simp) (fun _=>by simp)) (fun j c _ _=>hk (.cell o j) (fun _=>by simp) (fun _=>by simp))
 .simp only[Cx.remap]at e;split at e;·rename_i l0 k0 h0;exact h.gdom b l0 k0 h0
  grind
 .simp only[Cx.remap]at e;split at e;·rename_i l0 k0 h0;exact h.oamb b l0 k0 h0
  grind
 .obtain⟨u,h1,h2,h3⟩:=h.glob g cs hg j c hj;exact⟨u,(hE.point h1 h2).1,(hE.point h1 h2).2,hE.rep h3⟩
end Go.Ab

namespace Go.Ab
variable {w : World} {v val : Value} {d : D} {X : Cx} {c : AV} {E : Env0} {s s1 : St} {a : Act} {x : Operand} {l : Loc} {xs : List D} {o : Nat} {p : Place} {fl : Flag} {q : Bool}
theorem q6o(w:World)(X:Cx)(l:Loc)(v:Value):RVl w X l (q08 v) v:=by cases v with
 |slice a n c=>cases a with
  |none=>cases n with
   |zero=>cases c with|zero=>exact .inl ⟨rfl,none,rfl⟩|succ c=>trivial
   |succ n=>trivial
  |some a=>trivial
 |pointer a=>cases a with|none=>exact .v _ rfl|some a=>trivial
 |map a=>cases a with|none=>exact .v _ rfl|some a=>trivial
 |chan a=>cases a with|none=>exact .v _ rfl|some a=>trivial
 |agg c=>trivial|tuple c=>trivial|func f a b=>trivial|iface a b=>trivial|_=>exact .v _ rfl
theorem qb2{I:Nat->Nat->Prop}(h:q03 (q08 v)=some d):Rep w I d v:=by cases v with
 |slice a n c=>cases a with
  |none=>cases n with
   |zero=>cases c with|zero=>simp[q08,q03]at h;subst h;exact .empty none 0|succ c=>simp[q08,q03]at h
   |succ n=>simp[q08,q03]at h
  |some a=>simp[q08,q03]at h
 |pointer a=>cases a with|none=>simp[q08,q03]at h;subst h;exact .v _ rfl|some a=>simp[q08,q03]at h
 |map a=>cases a with|none=>simp[q08,q03]at h;subst h;exact .v _ rfl|some a=>simp[q08,q03]at h
 |chan a=>cases a with|none=>simp[q08,q03]at h;subst h;exact .v _ rfl|some a=>simp[q08,q03]at h
 |agg c=>simp[q08,q03]at h|tuple c=>simp[q08,q03]at h|func f a b=>simp[q08,q03]at h|iface a b=>simp[q08,q03]at h|_=>simp[q08,q03]at h;subst h;exact .v _ rfl
theorem q2s:∀{cs:List AV}{ds:List D},q0s cs=some ds->ds.length=cs.length/\∀(j:Nat)c,cs[j]?=some c->∃d,ds[j]?=some d/\q03 c=some d|[],ds,h=>by simp[q0s]at h;simp_all|c::r,ds,h=>by simp only[q0s]at h;cases h1:q03 c with|none=>simp_all|some x=>cases h2:q0s r with|none=>simp_all|some xs=>simp[h1,h2]at h;subst h;obtain⟨h3,h4⟩:=q2s h2;grind
theorem qvn(v:Value):q4i (q08 v)=q03 (q08 v):=by unfold q08;split<;>rfl
theorem qje{I:Nat->Nat->Prop}(h:q4i (q0j v)=some d):Rep w I d v:=by cases v with
 |agg cs=>simp only[q0j,q4i]at h;cases hf:q0s (cs.toList.map q08)with|none=>simp_all|some ds=>
   simp[hf]at h;subst h;obtain⟨h3,h4⟩:=q2s hf;refine .agg ds cs (by simp_all) (fun j c hj=>?_);have hlt:j<cs.size:=by grind
   obtain⟨d,hd,hfd⟩:=h4 j (q08 cs[j]) (by grind);rw[hj]at hd;cases hd;have:cs.getD j undef=cs[j]:=by simp_all
   rw[this];exact qb2 hfd
 |_=>exact qb2 (by rw[<-qvn];exact h)
theorem qfx{L:Nat->Loc}(h:RVl w X (L 0) c v):RVs w X L c v:=by cases c with|agg cs=>exact(h:False).elim|tup cs=>exact(h:False).elim|_=>exact h
theorem qjc(v:Value)(h:∀cs,v≠.agg cs):q0j v=q08 v:=by unfold q0j;simp
theorem qfo(w:World)(X:Cx)(L:Nat->Loc)(v:Value):RVs w X L (q0j v) v:=by
 by_cases hv:∃cs,v=.agg cs
 .obtain⟨cs,rfl⟩:=hv;refine⟨cs,rfl,by simp,fun j c hj=>?_⟩;simp only[List.getElem?_map,Array.getElem?_toList,Option.map_eq_some_iff]at hj;obtain⟨u,hu,rfl⟩:=hj;have:cs.getD j undef=u:=by simp_all
  rw[this];exact q6o w X _ u
 .rw[qjc v (fun cs e=>hv ⟨cs,e⟩)];exact qfx (q6o w X (L 0) v)
theorem q74(h:Rel E X s a w)(hd:plainC E s x=some d):Rep w X.imm d (a.eval x):=by cases x with|tmp t=>simp only[plainC,ev]at hd;have ht:=h.env t;generalize get s.env t=c at hd ht;cases c<;>simp[plain]at hd;subst hd;exact ht|const v=>exact qje hd|global g=>simp only[plainC,ev]at hd;split at hd<;>simp[plain]at hd|func f=>simp[plainC,ev,plain]at hd
theorem qmj{E:Env0}{X:Cx}{s:St}{a:Act}{w:World}(h:Rel E X s a w):∀{l:List Operand}{ds:List D},plainsC E s l=some ds->ds.length=l.length/\∀(i:Nat)d,ds[i]?=some d->∃x,l[i]?=some x/\Rep w X.imm d (a.eval x)|[],ds,hd=>by simp[plainsC]at hd;simp_all|x::l,ds,hd=>by simp only[plainsC]at hd;cases h1:plainC E s x with|none=>simp_all|some d0=>cases h2:plainsC E s l with|none=>simp_all|some dr=>simp[h1,h2]at hd;subst hd;obtain⟨h3,h4⟩:=qmj h h2;refine⟨by grind,fun i d hi=>?_⟩;cases i with|zero=>simp at hi;subst hi;exact⟨x,rfl,q74 h h1⟩|succ i=>simp_all
theorem q0t{I:Nat->Nat->Prop}{x:Value}(h:Rep w I (.v x) v):v=x:=by cases h;rfl
def Sound(E:Env0)(X:Cx)(a:Act)(w:World)(r:Result Next)(v:AV)(s1:St):Prop:=∃val w1 X1,r=.ok (.value val) w1/\(∃more,X1.mu=X.mu++more)/\Ext X w X1 w1/\Rel E X1 s1 a w1/\RVe X1 s1 a w1 .res v val
theorem Sound.same{r:Result Next}{v:AV}(h:Rel E X s a w)(hr:r=.ok (.value val) w)(hv:RVe X s a w .res v val):Sound E X a w r v s:=⟨val,w,X,hr,⟨[],by simp⟩,Ext.refl X w,h,hv⟩
theorem RVe_d{L:Nat->Loc}(h:Rep w X.imm d v):RVe X s a w L (.d d) v:=h
theorem OwnOk.view(hamb:∀b l k,X.G b=some (l,k)->∀o,X.amb b o)(ho:OwnOk w X l xs true v):Rep w X.imm (.list xs) v:=by
 rcases ho with⟨rfl,a,rfl⟩|⟨_,h2,_⟩|⟨b,cap,cur,e,sz,rfl,hg,hw,hs,hz,hne,hsz,hc,hm,hr⟩;·exact .empty a 0
 .omega
 .simp only[if_true]at hg;refine .list xs b 0 cap sz (fun i j=>cur.getD (i*sz+j) undef) hs hc (fun i x hx' j c hj=>?_) (fun i x hx' j c hj=>?_)
  .obtain⟨u,hu,_⟩:=hr i x hx' j c hj;refine⟨?_,hamb b _ _ hg _,fun l k e=>?_⟩;·rw[Nat.zero_add,cell_of_row w b _ cur e (0,0) hw,hu];simp_all
   .rw[hg]at e;simp only[sI,pI]at e;obtain⟨-,rfl⟩:=e;have hi:i<xs.length:=(List.getElem?_eq_some_iff.1 hx').1;have hj':j<sz:=by rw[<-hs x (List.mem_of_getElem? hx')];exact(List.getElem?_eq_some_iff.1 hj).1
    have:(i+1)*sz<=xs.length*sz:=Nat.mul_le_mul_right _ hi;grind
  .obtain⟨u,hu,hru⟩:=hr i x hx' j c hj;simp_all
theorem OwnOk.lend(ho:OwnOk w X l xs false v):∃X':Cx,X'.mu=X.mu/\X'.amb=X.amb/\Ext X w X' w/\OwnOk w X' l xs true v/\(∀b l' k,X'.G b=some (l',k)->∃k',X.G b=some (l',k'))/\(∀b l' k,l'≠l->X.G b=some (l',k)->X'.G b=some (l',k)):=by
 rcases ho with h0|⟨h1,_⟩|⟨b,cap,cur,e,sz,rfl,hg,hw,hs,hz,hne,hsz,hc,hm,hr⟩;·exact⟨X,rfl,rfl,Ext.refl X w,.inl h0,fun b l' k e=>⟨k,e⟩,fun b l' k _ e=>e⟩
 .grind
 .simp only[fT,if_false]at hg;have hE:Ext X w (X.lockAt b l (xs.length*sz)) w:=by
   refine⟨rfl,Nat.le_refl _,rfl,rfl,rfl,fun b' hb hn=>⟨?_,rfl⟩,fun b' l' k hk=>⟨fun l1 k1 h1=>?_,fun _ _=>rfl⟩⟩
   .have:b'≠b:=fun e=>by simp_all
    simp[Cx.lockAt,this,hn]
   .simp only[Cx.lockAt]at h1;grind
  refine⟨X.lockAt b l (xs.length*sz),rfl,rfl,hE,.inr (.inr ⟨b,cap,cur,e,sz,rfl,by simp[Cx.lockAt],hw,hs,hz,hne,hsz,hc,hm,fun i x hx j c hj=>let⟨u,hu,hru⟩:=hr i x hx j c hj;⟨u,hu,hE.rep hru⟩⟩),fun b' l' k h1=>?_,fun b' l' k hne' h1=>?_⟩;·simp only[Cx.lockAt]at h1;grind
  .have:b'≠b:=fun e=>by simp_all
   simp[Cx.lockAt,this,h1]
def locOf:Place->Loc|.slot t=>.slot t 0|.cell o off=>.cell o off
theorem q14{off:Nat}(h:content s (.cell o off)=c)(hc:c≠.undef):∃cs,s.heap[o]?=some cs/\cs[off]?=some c:=by simp only[content,q0i]at h;grind
theorem Rel.place(h:Rel E X s a w)(hc:content s p=c)(hu:c≠.undef)(hp:c.placed=false)(ha:∀cs,c≠.agg cs)(htp:∀cs,c≠.tup cs):∃val,cval X a w p=some val/\RVl w X (locOf p) c val:=by cases p with
 |slot t=>have ht:=h.env t;have hb:=h.bound t ⟨c,hc,hu⟩;simp only[content]at hc;rw[hc]at ht;have hs:=q38 hp ht;refine⟨a.tmps.getD t undef,by simp[cval,Array.getD_eq_getD_getElem?,hb],?_⟩;cases c with|agg cs=>simp_all|tup cs=>simp_all|_=>exact hs
 |cell o off=>obtain⟨cs,h1,h2⟩:=q14 hc hu;exact(h.heap o cs h1).get h2
theorem q44(h:Heap)(o off:Nat)(v:AV)(o':Nat):(q0z h o off v)[o']?=if o=o' then(h[o]?).map (fun cs=>cs.set off v)else h[o']?:=by unfold q0z;grind
theorem Rel.ownUpdate{X':Cx}{w':World}(h:Rel E X s a w){ys:List D}{l0 l1:Bool}(hc:content s p=.own xs l0)(hv:cval X a w p=some val)(hmu:X'.mu=X.mu)(hE:Ext X w X' w')(hk:∀l,l≠locOf p->q4t X w X' w' l)(hd:∀b l k,X'.G b=some (l,k)->b<w'.heap.size/\∀o,X'.amb b o)(ho:OwnOk w' X' (locOf p) ys l1 val)(hsz:∀sz,(∀x∈xs,x.cells.length=sz)->∀y∈ys,y.cells.length=sz):Rel E X' (lendPlace s p (.own ys l1)) a w':=by
 have hm:∀(o:Nat)b,X.mu[o]?=some b->X'.mu[o]?=some b:=fun o b e=>by simp_all
 have hcv:∀q,inR s q->cval X' a w' q=cval X a w q:=fun q hq=>by cases q with|slot t=>rfl|cell o off=>have ho':=hq o off rfl;exact(h.heap o s.heap[o] (by simp)).cval_eq hm (hk (.blk o) (by cases p<;>simp[locOf]))
 have hct:∀q,content (lendPlace s p (.own ys l1)) q=if q=p then .own ys l1 else content s q:=by intro q;cases p with
  |slot t=>cases q with|slot u=>simp only[content,lendPlace,q2a];by_cases e:t=u<;>simp[e];omega|cell o off=>rfl
  |cell o off=>cases q with|slot u=>rfl|cell o' off'=>obtain⟨cs,h1,h2⟩:=q14 hc (by simp);have hlt:=(List.getElem?_eq_some_iff.1 h2).1;simp only[content,lendPlace,q0i,q44];grind
 have hlen':(lendPlace s p (.own ys l1)).heap.length=s.heap.length:=by cases p with|slot t=>rfl|cell o off=>simp only[lendPlace,q0z];split<;>simp
 have hplaced:∀(L:Nat->Loc)(c:AV)(x:Value),RVe X s a w L c x->c.placed=true->RVe X' (lendPlace s p (.own ys l1)) a w' L c x:=by intro L c x hx hp;cases c with
  |loc q=>
   refine⟨fun o' off' e'=>by have:=hx.1 o' off' e';rw[hlen'];exact this,fun hq=>?_⟩;rw[hct]at hq;rw[hcv q hx.1];refine hx.2 ?_;by_cases e:q=p;·rw[e,hc];rfl
   simp_all|elt q i off=>
   refine⟨fun o' off' e'=>by have:=hx.1 o' off' e';omega,fun zs l hq=>?_⟩;rw[hct]at hq;rw[hcv q hx.1];by_cases e:q=p;·subst e;simp only[if_true,AV.own.injEq]at hq;obtain⟨rfl,rfl⟩:=hq;obtain⟨b,o0,n,cap,sz,g1,g2,g3⟩:=hx.2 xs l0 hc;exact⟨b,o0,n,cap,sz,g1,hsz sz g2,g3⟩
   .exact hx.2 zs l (by simp_all)|seg q i off=>
   refine⟨fun o' off' e'=>by have:=hx.1 o' off' e';omega,fun zs l hq=>?_⟩;rw[hct]at hq;rw[hcv q hx.1];by_cases e:q=p;·subst e;simp only[if_true,AV.own.injEq]at hq;obtain⟨rfl,rfl⟩:=hq;obtain⟨ad,c',g0,g00,gg⟩:=hx.2 xs l0 hc;refine⟨ad,c',g0,g00,fun hlt=>?_⟩;obtain⟨b,o0,n,cap,sz,g1,g2,g3⟩:=gg hlt;exact⟨b,o0,n,cap,sz,g1,hsz sz g2,g3⟩
   .exact hx.2 zs l (by simp_all)|_=>cases hp
 have hent:∀u,get (lendPlace s p (.own ys l1)).env u=if Place.slot u=p then .own ys l1 else get s.env u:=fun u=>by have:=hct (.slot u);simpa[content]using this
 refine⟨fun u=>?_,fun u hu=>?_,by rw[hmu,h.mu,hlen'],fun o cs hcs=>?_,fun b l k e=>(hd b l k e).1,fun b o hb=>by rw[hE.amb];exact h.amb b o (Nat.le_trans hE.size hb),fun b l k e=>(hd b l k e).2,fun g cs hg j c hj=>?_,h.defers⟩
 .have hu:=h.env u;rw[hent];by_cases e:Place.slot u=p
  .subst e;simp only[if_true];have hval:a.tmps.getD u undef=val:=by simp[cval]at hv;simp_all
   rw[hval];exact ho
  .simp only[e,if_false];by_cases hp:(get s.env u).placed=true;·simp_all
   .exact q1d (RVs.ext hE hm (fun j b k e'=>hk (.slot u j) (fun e2=>by cases p with|slot t=>simp[locOf]at e2;simp_all|cell o off=>simp[locOf]at e2) b k e') (q38 (by simp_all) hu))
 .obtain⟨c,hc',hne⟩:=hu;rw[hent]at hc';by_cases e:Place.slot u=p;·refine h.bound u ⟨.own xs l0,?_,by simp⟩;rw[<-e]at hc;exact hc
  .simp only[e,if_false]at hc';exact h.bound u ⟨c,hc',hne⟩
 .cases p with|slot t=>exact(h.heap o cs hcs).ext hE hm (hk (.blk o) (by simp[locOf])) (fun j c _ _=>hk (.cell o j) (by simp[locOf]))|cell o1 off=>
   simp only[lendPlace,q44]at hcs;by_cases e:o1=o;·subst e;obtain⟨cs0,h1,h2⟩:=q14 hc (by simp);simp only[if_true,h1,mS,sI]at hcs;subst hcs;exact(h.heap o1 cs0 h1).set hE hm (hk (.blk o1) (by simp[locOf])) (fun j hj=>hk (.cell o1 j) (by simp[locOf];omega)) hv ho
   .simp only[e,if_false]at hcs;exact(h.heap o cs hcs).ext hE hm (hk (.blk o) (by simp[locOf])) (fun j c _ _=>hk (.cell o j) (by simp[locOf];omega))
 .obtain⟨u,h1,h2,h3⟩:=h.glob g cs hg j c hj;exact⟨u,(hE.point h1 h2).1,(hE.point h1 h2).2,hE.rep h3⟩
theorem qyf(hr:RVl w X l (.ref o) v):cval X a w (.cell o 0)=some v:=by simp[cval,hr.1]
theorem y8k(h:content s (.cell o 0)=c)(hc:c≠.undef):inR s (.cell o 0):=by intro o' off e;cases e;obtain⟨cs,h1,_⟩:=q14 h hc;grind
theorem Rel.lend(h:Rel E X s a w)(hc:content s p=.own xs false):∃X' val,cval X a w p=some val/\X'.mu=X.mu/\Ext X w X' w/\Rel E X' (lendPlace s p (.own xs true)) a w/\Rep w X'.imm (.list xs) val/\(∀l,l≠locOf p->q4t X w X' w l):=by
 obtain⟨val,hv,hr⟩:=h.place hc (by simp) rfl (by simp) (by simp);obtain⟨X',hmu,hamb,hE,ho,hG,hO⟩:=OwnOk.lend hr;have hk:∀l,l≠locOf p->q4t X w X' w l:=fun l hl b k e=>⟨hO b l k hl e,rfl⟩;have hoamb:∀b l k,X'.G b=some (l,k)->∀o,X'.amb b o:=fun b l k e o=>by obtain⟨k',e'⟩:=hG b l k e;rw[hamb];exact h.oamb b l k' e' o
 exact⟨X',val,hv,hmu,hE,h.ownUpdate hc hv hmu hE hk (fun b l k e=>⟨let⟨k',e'⟩:=hG b l k e;h.gdom b l k' e',hoamb b l k e⟩) ho (fun sz hs=>hs),OwnOk.view hoamb ho,hk⟩
theorem RVl.copy{l':Loc}(ho:c.isOwn=false)(h:RVl w X l c v):RVl w X l' c v:=by cases c with|own xs lt=>cases ho|_=>exact h
theorem RVs.copy{L L':Nat->Loc}(ho:c.isOwn=false)(ha:∀cs,c≠.agg cs)(h:RVs w X L c v):RVs w X L' c v:=by cases c with|own xs lt=>cases ho|agg cs=>simp_all|tup cs=>obtain⟨vs,h1,h2,h3⟩:=h;exact⟨vs,h1,h2,fun j c hj=>⟨(h3 j c hj).1,RVl.copy (h3 j c hj).1 (h3 j c hj).2⟩⟩|_=>exact h
theorem qc5{r:Result Next}{v:AV}(h:Rel E X s a w)(hp:readPlace fl q s p=some (v,s1))(hv:∀u,cval X a w p=some u->u=val)(hr:r=.ok (.value val) w)(htup:∀cs,content s p=.tup cs->RVs w X .res (.tup cs) val)(helt:∀c q i off,(c=.elt q i off\/c=.seg q i off)->content s p=c->RVe X s a w .res c val):Sound E X a w r v s1:=by unfold readPlace at hp;generalize hc:content s p=c at hp;cases c with
 |undef=>grind|skipped=>grind|loc q=>grind|elt q i off=>simp only[sI,pI]at hp;obtain⟨rfl,rfl⟩:=hp;exact Sound.same h hr (helt _ q i off (.inl rfl) hc)|seg q i off=>simp only[sI,pI]at hp;obtain⟨rfl,rfl⟩:=hp;exact Sound.same h hr (helt _ q i off (.inr rfl) hc)|agg cs=>grind|own xs l=>obtain⟨u,hu,hru⟩:=h.place hc (by simp) rfl (by simp) (by simp);obtain rfl:=hv u hu;cases fl with|keep=>simp only[sI,pI]at hp;obtain⟨rfl,rfl⟩:=hp;exact Sound.same h hr ⟨fun o off e=>(by subst e;obtain⟨cs,h1,_⟩:=q14 hc (by simp);grind),fun _=>hu⟩|view=>simp only at hp;cases l with|true=>simp only[if_true,sI,pI]at hp;obtain⟨rfl,rfl⟩:=hp;exact Sound.same h hr (RVe_d (OwnOk.view h.oamb hru))|false=>cases q with|true=>grind|false=>simp only[fT,if_false,sI,pI]at hp;obtain⟨rfl,rfl⟩:=hp;obtain⟨X',u',hu',hmu,hE,hR,hrep,_⟩:=h.lend hc;obtain rfl:=hv u' hu';exact⟨u',w,X',hr,⟨[],by grind⟩,hE,hR,RVe_d hrep⟩
 |tup cs=>simp only[sI,pI]at hp;obtain⟨rfl,rfl⟩:=hp;exact Sound.same h hr (htup cs hc)|d x=>obtain⟨u,hu,hru⟩:=h.place hc (by simp) rfl (by simp) (by simp);obtain rfl:=hv u hu;simp only[sI,pI]at hp;obtain⟨rfl,rfl⟩:=hp;exact Sound.same h hr hru|ptr o off=>obtain⟨u,hu,hru⟩:=h.place hc (by simp) rfl (by simp) (by simp);obtain rfl:=hv u hu;simp only[sI,pI]at hp;obtain⟨rfl,rfl⟩:=hp;exact Sound.same h hr hru|view cs=>obtain⟨u,hu,hru⟩:=h.place hc (by simp) rfl (by simp) (by simp);obtain rfl:=hv u hu;simp only[sI,pI]at hp;obtain⟨rfl,rfl⟩:=hp;exact Sound.same h hr hru|ref o=>obtain⟨u,hu,hru⟩:=h.place hc (by simp) rfl (by simp) (by simp);obtain rfl:=hv u hu;simp only[sI,pI]at hp;obtain⟨rfl,rfl⟩:=hp;exact Sound.same h hr hru|fn f caps=>obtain⟨u,hu,hru⟩:=h.place hc (by simp) rfl (by simp) (by simp);obtain rfl:=hv u hu;simp only[sI,pI]at hp;obtain⟨rfl,rfl⟩:=hp;exact Sound.same h hr hru
theorem y0p{t:Nat}{v:AV}(h:Rel E X s a w)(o:Oper)(ho:o.op=.move (.tmp t))(hp:readPlace fl q s (.slot t)=some (v,s1)):Sound E X a w ((execOp a.eval o).run E.P w) v s1:=by
 refine qc5 (val:=a.tmps.getD t undef) h hp (fun u hu=>?_) (by simp[execOp,ho,Act.eval]) (fun cs hc=>?_) (fun c q i off hor hc=>?_);·simp only[cval]at hu;simp_all
 .have ht:=h.env t;simp only[content]at hc;rw[hc]at ht;exact RVs.copy rfl (by simp) ht
 .have ht:=h.env t;simp only[content]at hc;rw[hc]at ht;rcases hor with rfl|rfl;·exact ht
  .exact ht
theorem Rel.take(h:Rel E X s a w){v:AV}(hx:q3f (ev E s x)=some v)(off:Nat):∃X',X'.mu=X.mu/\Ext X w X' w/\Rel E X' (s.del (tmpOf x)) a w/\RVs w X' (fun j=>.res (off+j)) v (a.eval x)/\(∀l,(∀t j,x=.tmp t->l≠.slot t j)->q4t X w X' w l)/\(∀b l k,X'.G b=some (l,k)->∃l0,X.G b=some (l0,k))/\(∀(c:AV)L L' val,c.placed=true->RVe X s a w L c val->RVe X' (s.del (tmpOf x)) a w L' c val):=by
 have hmv:∀c:AV,q3f c=some v->v=c/\c.placed=false/\c≠.undef/\c≠.skipped:=by intro c hc;cases c<;>simp[q3f]at hc<;>simp[<-hc,AV.placed]
 obtain⟨rfl,hpl,hun,hsk⟩:=hmv _ hx;have hsame:∀(hd:s.del (tmpOf x)=s),RVs w X (fun j=>.res (off+j)) (ev E s x) (a.eval x)->_:=fun hd hr=>(⟨X,rfl,Ext.refl X w,by simp_all,hr,fun l _ b k e=>⟨e,rfl⟩,fun b l k e=>⟨l,e⟩,fun c L L' val hp hr'=>by rw[hd];cases c<;>first|exact hr'|cases hp⟩:∃X',X'.mu=X.mu/\Ext X w X' w/\Rel E X' (s.del (tmpOf x)) a w/\RVs w X' (fun j=>.res (off+j)) (ev E s x) (a.eval x)/\(∀l,(∀t j,x=.tmp t->l≠.slot t j)->q4t X w X' w l)/\(∀b l k,X'.G b=some (l,k)->∃l0,X.G b=some (l0,k))/\(∀(c:AV)L L' val,c.placed=true->RVe X s a w L c val->RVe X' (s.del (tmpOf x)) a w L' c val));cases x with
 |const c=>exact hsame rfl (qfo w X _ c)|func f=>exact hsame rfl ⟨#[],rfl,rfl,fun j o a hj=>by grind⟩|global g=>
  refine hsame rfl ?_;simp only[ev];split;·rename_i cs hg;exact⟨g,0,rfl,fun j c hj=>by simpa using h.glob g cs hg j c hj⟩
  .trivial|tmp t=>
  simp only[ev]at hpl hun hsk⊢;have ht:=h.env t;have hb:=h.bound t ⟨_,rfl,hun⟩;let φ:Loc->Option Loc:=fun|.slot t' j=>if t'=t then some (.res (off+j))else some (.slot t' j)|l=>some l;have hE:=Ext.remap X w φ;have hm:∀(o:Nat)b,X.mu[o]?=some b->(X.remap φ).mu[o]?=some b:=fun o b e=>e;have hk:∀l,(∀j,l≠.slot t j)->q4t X w (X.remap φ) w l:=by intro l h2 b k e;refine⟨?_,rfl⟩;rw[Cx.remap_some e];grind
  have hent:∀u,get (s.del [t]).env u=if t=u then .undef else if(get s.env t).isOwn&&(get s.env u).sitsAt t then .undef else get s.env u:=by intro u;simp only[St.del,q1i,show AV.undef.isOwn=false from rfl,Bool.or_false]
  have hct:∀p,(content (s.del [t]) p).isOwn=true->content (s.del [t]) p=content s p/\p≠.slot t:=by intro p ho;cases p with
   |slot u=>
    simp only[content,hent]at ho⊢;by_cases e:t=u;·simp[e]at ho;cases ho
    .simp only[e,if_false]at ho⊢;refine⟨?_,fun e2=>e (by cases e2;rfl)⟩;split at ho;·cases ho
     simp_all|cell o off'=>exact⟨rfl,by simp⟩
  have hplaced:∀(c:AV)L L' val,c.placed=true->RVe X s a w L c val->RVe (X.remap φ) (s.del [t]) a w L' c val:=by intro c L L' val hp hu;cases c with
   |loc p=>
    refine⟨hu.1,fun ho=>?_⟩;obtain⟨e1,e2⟩:=hct p ho;have:cval (X.remap φ) a w p=cval X a w p:=by cases p<;>rfl
    rw[this];exact hu.2 (by simp_all)|elt p i o'=>
    refine⟨hu.1,fun xs l ho=>?_⟩;obtain⟨e1,e2⟩:=hct p (by rw[ho];rfl);have:cval (X.remap φ) a w p=cval X a w p:=by cases p<;>rfl
    rw[this];exact hu.2 xs l (by simp_all)|seg p i o'=>
    refine⟨hu.1,fun xs l ho=>?_⟩;obtain⟨e1,e2⟩:=hct p (by rw[ho];rfl);have:cval (X.remap φ) a w p=cval X a w p:=by cases p<;>rfl
    rw[this];exact hu.2 xs l (by simp_all)|_=>cases hp
  refine⟨X.remap φ,rfl,hE,⟨fun u=>?_,fun u hu=>?_,h.mu,fun o cs hcs=>?_,fun b l k e=>?_,h.amb,fun b l k e=>?_,fun g cs hg j c hj=>?_,h.defers⟩,RVs.ext hE hm (fun j b k e=>⟨by rw[Cx.remap_some e];grind,rfl⟩) (q38 hpl ht),fun l hl=>hk l (fun j=>hl t j rfl),fun b l k e=>?_,hplaced⟩
  .show RVe _ (s.del [t]) a w _ (get (s.del [t]).env u) _;rw[hent];by_cases e:t=u;·simp only[e,if_true];trivial
   .simp only[e,if_false];by_cases hkill:((get s.env t).isOwn&&(get s.env u).sitsAt t)=true;·simp only[hkill,if_true];trivial
    .simp only[hkill];have hu:=h.env u;generalize get s.env u=c at hu hkill;by_cases hp:c.placed=true;·grind
     .exact q1d (RVs.ext hE hm (fun j b k e'=>hk (.slot u j) (fun _=>by grind) b k e') (q38 (by simp_all) hu))
  .obtain⟨c,hc,hne⟩:=hu;rw[show(s.del (tmpOf (.tmp t)))=s.del [t]from rfl,hent]at hc;by_cases e:t=u;·simp_all
   .simp only[e,if_false]at hc;split at hc;·simp_all
    .exact h.bound u ⟨c,hc,hne⟩
  .exact(h.heap o cs hcs).ext hE hm (hk (.blk o) (fun _=>by simp)) (fun j c _ _=>hk (.cell o j) (fun _=>by simp))
  .simp only[Cx.remap]at e;split at e;·rename_i l0 k0 h0;exact h.gdom b l0 k0 h0
   grind
  .simp only[Cx.remap]at e;split at e;·rename_i l0 k0 h0;exact h.oamb b l0 k0 h0
   grind
  .obtain⟨u,h1,h2,h3⟩:=h.glob g cs hg j c hj;exact⟨u,(hE.point h1 h2).1,(hE.point h1 h2).2,hE.rep h3⟩
  .simp only[Cx.remap]at e;grind
end Go.Ab

namespace Go.Ab
variable {P : Program} {t : TypeId} {b i j n o off : Nat} {w : World} {v : Value} {X : Cx} {x : Operand} {E : Env0} {s : St} {a : Act} {cs : List D} {q : Place}
theorem q8r{g:Bool}(h:tyAgg P t=some g)(w:World):(isAgg t).run P w=.ok g w:=by unfold tyAgg at h;cases hu:P.underlying t with|none=>simp_all|some d=>rw[hu]at h;simp only[isAgg,Sem.run_bind,run_underlying hu,Result.andThen_ok];cases d<;>simp_all
theorem q1q(h:q0f P t=some n)(w:World):(sizeOf t).run P w=.ok n w:=by simp only[q0f,Option.map_eq_some_iff]at h;obtain⟨i,hi,rfl⟩:=h;simp[sizeOf,typeInfo,hi]
theorem qe3{z:Value}(h:q3d P t=some z)(w:World):(zeroValue t).run P w=.ok z w:=by simp only[q3d,Option.bind_eq_some_iff]at h;obtain⟨i,hi,hz⟩:=h;simp[zeroValue,typeInfo,hi,hz]
theorem q39(b o n:Nat):(⟨b,o,none⟩:Addr).add n=⟨b,o+n,none⟩:=by unfold Addr.add;simp
theorem q35(ht:tyAgg P t=some false)(h:w.cell? ⟨b,o,none⟩=some v):(loadVar t ⟨b,o,none⟩).run P w=.ok v w:=by simp only[loadVar,Sem.run_bind,q8r ht,Result.andThen_ok,fT,if_false];simp_all
theorem q1k{vs:List Value}(ht:tyAgg P t=some true)(hn:q0f P t=some n)(hl:vs.length=n)(h:∀(j:Nat)v,vs[j]?=some v->w.cell? ⟨b,o+j,none⟩=some v):(loadVar t ⟨b,o,none⟩).run P w=.ok (.agg vs.toArray) w:=by have:=run_loadCells_list (P:=P) (w:=w) ⟨b,o,none⟩ vs (fun j v hj=>by rw[q39];simp_all);rw[hl]at this;simp[loadVar,q8r ht,q1q hn,this]
theorem OwnOk.elem{l:Loc}{xs:List D}{lt:Bool}(h:OwnOk w X l xs lt v){x:D}(hx:xs[i]?=some x):∃b o0 cap,v=.slice (some ⟨b,o0,none⟩) xs.length cap/\(∀y∈xs,y.cells.length=x.cells.length)/\∀(j:Nat)c,x.cells[j]?=some c->∃u,w.cell? ⟨b,o0+i*x.cells.length+j,none⟩=some u/\Rep w X.imm c u:=by
 have hxm:=List.mem_of_getElem? hx;rcases h with⟨rfl,_⟩|⟨_,h2,_⟩|⟨b,cap,cur,e,sz,rfl,hg,hw,hs,hz,hne,hsz,hc,hm,hr⟩;·grind
 .cases h2 with|empty a c=>grind|list _ b off cap sz V hs hc h hr=>grind
 .refine⟨b,0,cap,rfl,fun y hy=>by rw[hs y hy,hs x hxm],fun j c hj=>?_⟩;obtain⟨u,hu,hru⟩:=hr i x hx j c hj;refine⟨u,?_,hru⟩;rw[Nat.zero_add,cell_of_row w b _ cur e (0,0) hw,hs x hxm];omega
theorem Rel.elt(h:Rel E X s a w){p:Place}(L:Nat->Loc)(hv:RVe X s a w L (.elt p i off) v)(hc:q33 s p i off=some cs):∃b o,v=.pointer (some ⟨b,o,none⟩)/\∀(j:Nat)c,cs[j]?=some c->∃u,w.cell? ⟨b,o+j,none⟩=some u/\Rep w X.imm c u:=by
 unfold q33 at hc;generalize hct:content s p=c at hc;cases c<;>try cases hc
 rename_i xs l;simp only[Option.map_eq_some_iff]at hc;obtain⟨x,hx,rfl⟩:=hc;obtain⟨val,hval,hown⟩:=h.place hct (by simp) rfl (by simp) (by simp);obtain⟨b,o0,n,cap,sz,h1,h2,h3⟩:=hv.2 xs l hct;obtain⟨b',o0',cap',h4,h5,h6⟩:=OwnOk.elem hown hx;grind
theorem qne:∀{cs:List AV},q5d cs=true->∀(j:Nat)xs l,cs[j]?=some (.own xs l)->l=true|[],_,j,xs,l,hj=>by grind|c::r,h,j,xs,l,hj=>by cases j with|zero=>simp at hj;subst hj;simp only[q5d,aT]at h;grind|succ j=>
   have hr:q5d r=true:=by cases c<;>simp only[q5d,aT]at h<;>first|exact h|grind
   exact qne hr j xs l (by simp_all)
theorem Rel.cellsRead(h:Rel E X s a w){cs:List AV}{ds:List D}(hcs:s.heap[o]?=some cs)(hle:off+n<=cs.length)(hf:q0s ((cs.drop off).take n)=some ds)(hl:q5d ((cs.drop off).take n)=true){b:Nat}(hb:X.mu[o]?=some (.blk b)):∃vs:List Value,vs.length=n/\(∀(j:Nat)v,vs[j]?=some v->w.cell? ⟨b,off+j,none⟩=some v)/\Rep w X.imm (.agg ds) (.agg vs.toArray):=by
 obtain⟨cur,e,hg,hw,hn,hh⟩:=(h.heap o cs hcs).real hb;refine⟨(cur.toList.drop off).take n,by grind,fun j v hj=>?_,?_⟩;·rw[cell_of_row w b (off+j) cur e (0,0) hw];grind
 .obtain⟨h3,h4⟩:=q2s hf;refine .agg ds _ (by simp_all) (fun j d hj=>?_);have hj':j<n:=by grind
  have hlt:off+j<cs.length:=by omega
  have hc:((cs.drop off).take n)[j]?=some cs[off+j]:=by simp_all
  obtain⟨d',hd',hfd⟩:=h4 j _ hc;rw[hj]at hd';cases hd';have hr:=(hh (off+j) cs[off+j] (by simp)).1;have hval:(((cur.toList.drop off).take n).toArray).getD j undef=cur.getD (off+j) undef:=by simp_all
  rw[hval];generalize hcell:cs[off+j]=c at hc hr hfd;cases c<;>simp[q03]at hfd;·subst hfd;exact hr
  .rename_i xs l;subst hfd;have:l=true:=qne hl j xs l hc;subst this;exact OwnOk.view h.oamb hr
theorem Rel.lendFrom{E:Env0}{a:Act}{w:World}(o:Nat):∀(n off:Nat)(X:Cx)(s:St)(cs:List AV),Rel E X s a w->s.heap[o]?=some cs->∃X' cs',X'.mu=X.mu/\Ext X w X' w/\Rel E X' (lendFrom s o off n) a w/\(Go.Ab.lendFrom s o off n).heap[o]?=some cs'/\cs'.length=cs.length/\(∀j,off<=j->j<off+n->∀c,cs[j]?=some c->∃c',cs'[j]?=some c'/\q03 c'=q03 c/\∀xs l,c'=.own xs l->l=true)/\(∀j,j<off->cs'[j]?=cs[j]?)
 |0,off,X,s,cs,h,hcs=>⟨X,cs,rfl,Ext.refl X w,h,hcs,rfl,fun j h1 h2=>by omega,fun j _=>rfl⟩|n+1,off,X,s,cs,h,hcs=>by
  simp only[Go.Ab.lendFrom];have hgen:∀(X1:Cx)(s1:St)(cs1:List AV),X1.mu=X.mu->Ext X w X1 w->Rel E X1 s1 a w->s1.heap[o]?=some cs1->cs1.length=cs.length->(∀c,cs[off]?=some c->∃c',cs1[off]?=some c'/\q03 c'=q03 c/\∀xs l,c'=.own xs l->l=true)->(∀j,j≠off->cs1[j]?=cs[j]?)->∃X' cs',X'.mu=X.mu/\Ext X w X' w/\Rel E X' (Go.Ab.lendFrom s1 o (off+1) n) a w/\(Go.Ab.lendFrom s1 o (off+1) n).heap[o]?=some cs'/\cs'.length=cs.length/\(∀j,off<=j->j<off+(n+1)->∀c,cs[j]?=some c->∃c',cs'[j]?=some c'/\q03 c'=q03 c/\∀xs l,c'=.own xs l->l=true)/\(∀j,j<off->cs'[j]?=cs[j]?):=by intro X1 s1 cs1 hmu hE h1 hcs1 hlen hoff hoth;obtain⟨X',cs',hmu',hE',h',hcs',hlen',hin,hout⟩:=Rel.lendFrom o n (off+1) X1 s1 cs1 h1 hcs1;refine⟨X',cs',hmu'.trans hmu,Ext.trans h.gdom hE hE',h',hcs',hlen'.trans hlen,fun j h2 h3 c hc=>?_,fun j hj=>by rw[hout j (by omega),hoth j (by omega)]⟩;grind
  split
  .rename_i xs hcell;have hcon:content s (.cell o off)=.own xs false:=hcell;obtain⟨X1,val,hv,hmu,hE,hR,hrep,hk⟩:=h.lend hcon;obtain⟨cs2,h1,h2⟩:=q14 hcon (by simp);rw[hcs]at h1;cases h1;have hlt:=(List.getElem?_eq_some_iff.1 h2).1;refine hgen X1 _ (cs.set off (.own xs true)) hmu hE hR ?_ (by simp) (fun c hc=>?_) (fun j hj=>?_);·simp only[lendPlace,q44,if_true,hcs,mS]
   .rw[h2]at hc;cases hc;exact⟨.own xs true,by simp[hlt],rfl,fun ys l e=>by cases e;rfl⟩
   grind
  .rename_i hno;refine hgen X s cs rfl (Ext.refl X w) h hcs rfl (fun c hc=>⟨c,hc,rfl,fun xs l e=>?_⟩) (fun j _=>rfl);subst e;cases l with|true=>rfl|false=>exact absurd (by simp[q0i,hcs,hc]) (hno xs)
theorem Rel.operand(h:Rel E X s a w)(x:Operand):∃L,RVe X s a w L (ev E s x) (a.eval x):=by cases x with
 |tmp t=>exact⟨.slot t,h.env t⟩|const v=>exact⟨.res,q1d (qfo w X _ v)⟩|global g=>
  refine⟨.res,?_⟩;simp only[ev];split;·rename_i cs hg;exact⟨g,0,rfl,fun j c hj=>by simpa using h.glob g cs hg j c hj⟩
  .trivial|func f=>exact⟨.res,⟨#[],rfl,rfl,fun j o a hj=>by grind⟩⟩
theorem Rel.ptr(h:Rel E X s a w)(hx:ev E s x=.ptr o off):∃b,X.mu[o]?=some (.blk b)/\a.eval x=.pointer (some ⟨b,off,none⟩):=by obtain⟨L,hr⟩:=h.operand x;rw[hx]at hr;exact hr
theorem Rel.viewp(h:Rel E X s a w)(hx:ev E s x=.view cs):∃b off,a.eval x=.pointer (some ⟨b,off,none⟩)/\∀(j:Nat)c,cs[j]?=some c->∃u,w.cell? ⟨b,off+j,none⟩=some u/\X.imm b (off+j)/\Rep w X.imm c u:=by obtain⟨L,hr⟩:=h.operand x;rw[hx]at hr;exact hr
theorem q15{o:Oper}{val:Value}(ho:o.op=.load t x)(hx:a.eval x=.pointer (some ⟨b,off,none⟩))(hl:(loadVar t ⟨b,off,none⟩).run P w=.ok val w):(execOp a.eval o).run P w=.ok (.value val) w:=by simp[execOp,ho,hx,Instr.loadAt,Instr.sureAddr,hl]
theorem Rel.noTup(h:Rel E X s a w){cs:List AV}(hc:content s (.cell o off)=.tup cs):False:=by obtain⟨cs',h1,h2⟩:=q14 hc (by simp);obtain⟨v,_,hr⟩:=(h.heap o cs' h1).get (a:=a) h2;exact hr
theorem Rel.noElt(h:Rel E X s a w)(hc:content s (.cell o off)=.elt q i j):False:=by obtain⟨cs',h1,h2⟩:=q14 hc (by simp);obtain⟨v,_,hr⟩:=(h.heap o cs' h1).get (a:=a) h2;exact hr
theorem Rel.noSeg(h:Rel E X s a w)(hc:content s (.cell o off)=.seg q i j):False:=by obtain⟨cs',h1,h2⟩:=q14 hc (by simp);obtain⟨v,_,hr⟩:=(h.heap o cs' h1).get (a:=a) h2;exact hr
theorem que(ht:tyAgg P t=some true)(hn:q0f P t=some n)(hle:n<=cs.length)(hh:∀(j:Nat)c,cs[j]?=some c->∃u,w.cell? ⟨b,off+j,none⟩=some u/\Rep w X.imm c u):∃vs:Array Value,(loadVar t ⟨b,off,none⟩).run P w=.ok (.agg vs) w/\Rep w X.imm (.agg (cs.take n)) (.agg vs):=by
 let f:Nat->Value:=fun j=>(w.cell? ⟨b,off+j,none⟩).getD undef;have hf:∀(j:Nat)c,cs[j]?=some c->w.cell? ⟨b,off+j,none⟩=some (f j)/\Rep w X.imm c (f j):=fun j c hj=>by grind
 refine⟨((List.range n).map f).toArray,q1k ht hn (by simp) (fun j v hj=>?_),.agg _ _ (by simp_all) (fun j c hj=>?_)⟩
 .simp only[List.getElem?_map,Option.map_eq_some_iff]at hj;obtain⟨k,hk,rfl⟩:=hj;have hjn:j<n:=by have:=(List.getElem?_eq_some_iff.1 hk).1;simpa using this
  have:k=j:=by rw[List.getElem?_range hjn]at hk;cases hk;rfl
  subst this;have hlt:k<cs.length:=by omega
  simp_all
 .rw[List.getElem?_take]at hj;simp_all
theorem qzm{s1:St}{fl:Flag}{q:Bool}{v:AV}(h:Rel E X s a w)(o:Oper)(ho:o.op=.load t x)(hp:q3p E fl q t (ev E s x) s=some (v,s1)):Sound E X a w ((execOp a.eval o).run E.P w) v s1:=by unfold q3p at hp;cases ht:tyAgg E.P t with|none=>simp_all|some g=>cases g with
  |false=>simp only[ht]at hp;generalize hx:ev E s x=c at hp;cases c with
   |ptr ob off=>
    obtain⟨b,hb,hev⟩:=h.ptr hx;have hp':readPlace fl q s (.cell ob off)=some (v,s1):=by omega
    have hcell:∃u,cval X a w (.cell ob off)=some u:=by
     by_cases hu:content s (.cell ob off)=.undef;·unfold readPlace at hp';simp_all
     .obtain⟨cs,h1,h2⟩:=q14 rfl hu;obtain⟨u,hu,_⟩:=(h.heap ob cs h1).get (a:=a) h2;simp_all
    obtain⟨u,hu⟩:=hcell;have hu':w.cell? ⟨b,off,none⟩=some u:=by simpa[cval,hb]using hu
    exact qc5 (val:=u) h hp' (fun u' h'=>by simp_all) (q15 ho hev (q35 ht hu')) (fun cs hc=>(h.noTup hc).elim) (fun c q i off hor hc=>hor.elim (fun e=>(h.noElt (hc.trans e)).elim) (fun e=>(h.noSeg (hc.trans e)).elim))|view cs=>cases cs with|nil=>cases q0f E.P t<;>simp at hp|cons c r=>
     have hp':v=.d c/\s1=s:=by cases q0f E.P t<;>simp at hp<;>exact⟨hp.1.symm,hp.2.symm⟩
     obtain⟨rfl,rfl⟩:=hp';obtain⟨b,off,hev,hh⟩:=h.viewp hx;obtain⟨u,h1,h2,h3⟩:=hh 0 c rfl;exact Sound.same h (q15 ho hev (q35 ht h1)) (RVe_d h3)
   |elt p i off=>
    have hp':∃c r,q33 s p i off=some (c::r)/\v=.d c/\s1=s:=by grind
    obtain⟨c,r,h1,rfl,rfl⟩:=hp';obtain⟨L,hr⟩:=h.operand x;rw[hx]at hr;obtain⟨b,o',hev,hh⟩:=h.elt L hr h1;obtain⟨u,h2,h3⟩:=hh 0 c rfl;exact Sound.same h (q15 ho hev (q35 ht h2)) (RVe_d h3)|_=>cases q0f E.P t<;>simp at hp
  |true=>cases hn:q0f E.P t with|none=>simp_all|some n=>simp only[ht,hn]at hp;generalize hx:ev E s x=c at hp;cases c with
    |ptr ob off=>obtain⟨b,hb,hev⟩:=h.ptr hx;simp only at hp;cases hcs:s.heap[ob]? with|none=>simp_all|some cs=>
      simp only[hcs]at hp;split at hp;·rename_i hle;cases hf:q0s ((cs.drop off).take n)with|none=>simp[hf]at hp|some ds=>
        simp only[hf]at hp;split at hp;·rename_i hl;simp only[sI,pI]at hp;obtain⟨rfl,rfl⟩:=hp;obtain⟨vs,h1,h2,h3⟩:=h.cellsRead hcs hle hf hl hb;exact Sound.same h (q15 ho hev (q1k ht hn h1 h2)) (RVe_d h3)
        .split at hp;·cases hp
         .simp only[sI,pI]at hp;obtain⟨rfl,rfl⟩:=hp;obtain⟨X',cs',hmu,hE,hR,hcs',hlen,hin,_⟩:=Rel.lendFrom ob n off X s cs h hcs;have hgetj:∀(j:Nat),j<n->∃c c',cs[off+j]?=some c/\cs'[off+j]?=some c'/\q03 c'=q03 c/\∀xs l,c'=.own xs l->l=true:=fun j hj=>by
           have hlt:off+j<cs.length:=by omega
           obtain⟨c',h1,h2,h3⟩:=hin (off+j) (by omega) (by omega) cs[off+j] (by simp[hlt]);exact⟨_,c',by simp[hlt],h1,h2,h3⟩
          have hf':q0s ((cs'.drop off).take n)=some ds:=by
           have key:∀(l1 l2:List AV),l1.length=l2.length->(∀(j:Nat)c1 c2,l1[j]?=some c1->l2[j]?=some c2->q03 c1=q03 c2)->q0s l1=q0s l2:=by intro l1;induction l1 with
            |nil=>intro l2 hl _;cases l2 with|nil=>rfl|cons=>simp at hl
            |cons c r ih=>intro l2 hl hh;cases l2 with|nil=>simp at hl|cons c2 r2=>simp only[q0s];rw[hh 0 c c2 rfl rfl,ih r2 (by simpa using hl) (fun j c1 c2 h1 h2=>hh (j+1) c1 c2 (by simpa using h1) (by simpa using h2))]
           rw[<-hf];refine key _ _ (by simp;omega) (fun j c1 c2 h1 h2=>?_);rw[List.getElem?_take]at h1 h2;split at h1;·rename_i hj;rw[if_pos hj]at h2;rw[List.getElem?_drop]at h1 h2;obtain⟨c,c',g1,g2,g3,_⟩:=hgetj j hj;rw[g2]at h1;rw[g1]at h2;cases h1;cases h2;exact g3
           .cases h1
          have hl':q5d ((cs'.drop off).take n)=true:=by
           have key:∀(l1:List AV),(∀(j:Nat)xs l,l1[j]?=some (.own xs l)->l=true)->q5d l1=true:=by intro l1;induction l1 with|nil=>intro _;rfl|cons c r ih=>intro hh;have hr:=ih (fun j xs l h1=>hh (j+1) xs l (by simpa using h1));cases c<;>simp only[q5d,aT]<;>first|exact hr|exact⟨hh 0 _ _ rfl,hr⟩
           refine key _ (fun j xs l h1=>?_);rw[List.getElem?_take]at h1;split at h1;·rename_i hj;rw[List.getElem?_drop]at h1;obtain⟨c,c',g1,g2,g3,g4⟩:=hgetj j hj;rw[g2]at h1;cases h1;exact g4 xs l rfl
           .cases h1
          obtain⟨vs,h1,h2,h3⟩:=hR.cellsRead hcs' (by omega) hf' hl' (b:=b) (by rw[hmu];exact hb);exact⟨_,w,X',q15 ho hev (q1k ht hn h1 h2),⟨[],by simp[hmu]⟩,hE,hR,RVe_d h3⟩
      simp_all
    |view cs=>
     simp only at hp;split at hp;·rename_i hle;simp only[sI,pI]at hp;obtain⟨rfl,rfl⟩:=hp;obtain⟨b,off,hev,hh⟩:=h.viewp hx;obtain⟨vs,h1,h2⟩:=que (P:=E.P) ht hn hle (fun j c hj=>let⟨u,g1,_,g3⟩:=hh j c hj;⟨u,g1,g3⟩);exact Sound.same h (q15 ho hev h1) (RVe_d h2)
     simp_all|elt p i off=>simp only at hp;cases hc:q33 s p i off with|none=>simp_all|some cs=>
      simp only[hc]at hp;split at hp;·rename_i hle;simp only[sI,pI]at hp;obtain⟨rfl,rfl⟩:=hp;obtain⟨L,hr⟩:=h.operand x;rw[hx]at hr;obtain⟨b,o',hev,hh⟩:=h.elt L hr hc;obtain⟨vs,h1,h2⟩:=que (P:=E.P) ht hn hle hh;exact Sound.same h (q15 ho hev h1) (RVe_d h2)
      simp_all
    |_=>grind
end Go.Ab

namespace Go.Ab
variable {w : World} {X : Cx}
theorem qnw{L:Nat->Loc}{v:AV}{val:Value}(hm:q3f v=some v)(h:RVs w X L v val):val.cells.size=v.cells.length/\∀(j:Nat)c,v.cells[j]?=some c->RVl w X (L j) c (val.cells.getD j undef):=by
 have one:∀u:Value,(∀cs,u≠.agg cs)->u.cells=#[u]:=by intro u hu;cases u<;>first|rfl|simp_all
 have leaf:∀c:AV,c.cells=[c]->(∀cs,val≠.agg cs)->RVl w X (L 0) c val->val.cells.size=c.cells.length/\∀(j:Nat)c',c.cells[j]?=some c'->RVl w X (L j) c' (val.cells.getD j undef):=by intro c hc hv hr;rw[hc,one val hv];refine⟨rfl,fun j c' hj=>?_⟩;cases j with|zero=>simp_all|succ j=>grind
 cases v with
 |undef=>cases hm|skipped=>cases hm|loc p=>cases hm|elt p i off=>cases hm|seg p i off=>cases hm|tup cs=>cases hm|agg cs=>obtain⟨vs,rfl,hn,hh⟩:=h;exact⟨hn,hh⟩|d x=>have h':Rep w X.imm x val:=h;cases h' with|v y h1=>exact leaf _ rfl (fun cs e=>by rw[e]at h1;cases h1) h|empty a c=>exact leaf _ rfl (fun cs e=>by cases e) h|list xs b off cap sz V hs hc hh hr=>exact leaf _ rfl (fun cs e=>by cases e) h|agg cs vs hn hr=>refine⟨by simp[AV.cells,Value.cells,hn],fun j c hj=>?_⟩;simp only[AV.cells,List.getElem?_map,Option.map_eq_some_iff]at hj;obtain⟨x,hx,rfl⟩:=hj;exact hr j x hx
 |own xs l=>refine leaf _ rfl (fun cs e=>?_) h;rcases h with⟨_,a,e'⟩|⟨_,_,a,n,e'⟩|⟨b,cap,cur,e1,sz,e',_⟩<;>(simp_all)|ptr o off=>obtain⟨b,hb,e⟩:=id h;exact leaf _ rfl (fun cs e'=>by simp_all) h|view cs=>obtain⟨b,off,e,_⟩:=id h;exact leaf _ rfl (fun cs e'=>by simp_all) h|ref o=>obtain⟨_,a,n,c,e⟩:=id h;exact leaf _ rfl (fun cs e'=>by simp_all) h|fn f caps=>obtain⟨vs,e,_⟩:=id h;exact leaf _ rfl (fun cs e'=>by simp_all) h
theorem qx3(w:World)(X:Cx)(L:Nat->Loc)(z:Value):z.cells.size=(q0j z).cells.length/\∀(j:Nat)c,(q0j z).cells[j]?=some c->RVl w X (L j) c (z.cells.getD j undef):=by
 by_cases hz:∃cs,z=.agg cs;·obtain⟨cs,rfl⟩:=hz;obtain⟨vs,e,hn,hh⟩:=qfo w X L (.agg cs);cases e;exact⟨hn,hh⟩
 .have h1:z.cells=#[z]:=by cases z<;>first|rfl|simp_all
  have h2:q0j z=q08 z:=qjc z (fun cs e=>hz ⟨cs,e⟩);have h3:(q08 z).cells=[q08 z]:=by unfold q08;split<;>rfl
  rw[h1,h2,h3];refine⟨rfl,fun j c hj=>?_⟩;cases j with|zero=>simp at hj;subst hj;exact q6o w X _ z|succ j=>grind
theorem Rel.newVar{E:Env0}{s:St}{a:Act}(h:Rel E X s a w)(cs:List AV)(vs:Array Value)(e:TypeId)(hn:vs.size=cs.length)(hh:∀(j:Nat)c,cs[j]?=some c->RVl w X (.res j) c (vs.getD j undef)):∃X',X'.mu=X.mu++[.blk w.heap.size]/\Ext X w X' (w.alloc (.cells vs e))/\Rel E X' {s with heap:=s.heap++[cs]} a (w.alloc (.cells vs e)):=by
 let φ:Loc->Option Loc:=fun|.res j=>some (.cell s.heap.length j)|.cell o j=>if o=s.heap.length then none else some (.cell o j)|.blk o=>if o=s.heap.length then none else some (.blk o)|l=>some l;let X':Cx:={mu:=X.mu++[.blk w.heap.size],amb:=X.amb,G:=fun b=>if b=w.heap.size then some (.blk s.heap.length,0)else(X.remap φ).G b};have hgn:∀b,w.heap.size<=b->X.G b=none:=by intro b hb;cases hx:X.G b with|none=>rfl|some y=>have:=h.gdom b y.1 y.2 hx;omega
 have hE:Ext X w X' (w.alloc (.cells vs e)):=by
  refine⟨rfl,by simp,rfl,rfl,rfl,fun b hb hx=>⟨?_,heap_alloc_old w _ b hb⟩,fun b l k hx=>⟨fun l' k' h'=>?_,fun o _=>?_⟩⟩
  .have:b≠w.heap.size:=by omega
   simp[X',this,Cx.remap,hx]
  .have hb:=h.gdom b l k hx;have:b≠w.heap.size:=by omega
   simp only[X',this,if_false]at h';exact((Ext.remap X w φ).own b l k hx).1 l' k' h'
  .have hb:=h.gdom b l k hx;exact cell?_of_heap (heap_alloc_old w _ b hb) o
 have hm:∀(o:Nat)b,X.mu[o]?=some b->X'.mu[o]?=some b:=fun o b hb=>by grind
 have hk:∀l,φ l=some l->q4t X w X' (w.alloc (.cells vs e)) l:=by
  intro l hl b k hx;have hb:=h.gdom b l k hx;have:b≠w.heap.size:=by omega
  refine⟨?_,heap_alloc_old w _ b hb⟩;simp only[X',this,if_false];rw[Cx.remap_some hx,hl];rfl
 have hslot:∀t j,φ (.slot t j)=some (.slot t j):=fun t j=>rfl;have hold:∀o,o<s.heap.length->∀j,φ (.cell o j)=some (.cell o j)/\φ (.blk o)=some (.blk o):=fun o ho j=>by grind
 have hcv:∀p u,(content s p).isOwn=true->cval X a w p=some u->cval X' a (w.alloc (.cells vs e)) p=some u:=by intro p u hp hu;cases p with|slot t=>exact hu|cell o off=>obtain⟨cs',h1,h2⟩:=q14 (c:=content s (.cell o off)) rfl (fun e=>by rw[e]at hp;cases hp);exact(h.heap o cs' h1).cval (a:=a) (a':=a) hm (hk (.blk o) (hold o (List.getElem?_eq_some_iff.1 h1).1 0).2) hu
 have hct:∀p,(content {s with heap:=s.heap++[cs]} p).isOwn=true->(∀o off,p=.cell o off->o<s.heap.length)->content {s with heap:=s.heap++[cs]} p=content s p:=by intro p _ hp;cases p with|slot t=>rfl|cell o off=>simp only[content,q0i];grind
 refine⟨X',rfl,hE,⟨fun t=>?_,h.bound,by simp[X',h.mu],fun o cs' hcs'=>?_,fun b l k hx=>?_,fun b o hb=>h.amb b o (by simp at hb;omega),fun b l k hx=>?_,fun g cs' hg j c hj=>?_,h.defers⟩⟩
 .have ht:=h.env t;have hold':∀p,(∃c:AV,get s.env t=c/\(c=.loc p\/∃i off,c=.elt p i off\/c=.seg p i off))->∀L x,RVe X s a w (.slot t) (get s.env t) x->RVe X' {s with heap:=s.heap++[cs]} a (w.alloc (.cells vs e)) L (get s.env t) x:=by
   rintro p⟨c,hc,hp⟩L x hx;rw[hc]at hx⊢;have hmore:∀(q:Place),inR s q->inR {s with heap:=s.heap++[cs]} q:=fun q hq o off e=>by have:=hq o off e;grind
   rcases hp with rfl|⟨i,off,rfl|rfl⟩;·refine⟨hmore p hx.1,fun ho=>?_⟩;rw[hct p ho hx.1]at ho;exact hcv p x ho (hx.2 ho)
   .refine⟨hmore p hx.1,fun xs l ho=>?_⟩;have e1:=hct p (by rw[ho];rfl) hx.1;rw[e1]at ho;obtain⟨b,o0,n,cap,sz,g1,g2,g3⟩:=hx.2 xs l ho;exact⟨b,o0,n,cap,sz,hcv p _ (by rw[ho];rfl) g1,g2,g3⟩
   .refine⟨hmore p hx.1,fun xs l ho=>?_⟩;have e1:=hct p (by rw[ho];rfl) hx.1;rw[e1]at ho;obtain⟨ad,c',g0,g00,gg⟩:=hx.2 xs l ho;refine⟨ad,c',g0,g00,fun hlt=>?_⟩;obtain⟨b,o0,n,cap,sz,g1,g2,g3⟩:=gg hlt;exact⟨b,o0,n,cap,sz,hcv p _ (by rw[ho];rfl) g1,g2,g3⟩
  generalize hc:get s.env t=c at ht hold';cases c with|loc p=>simp_all|elt p i off=>simp_all|seg p i off=>simp_all|_=>exact q1d (RVs.ext hE hm (fun j b k hx=>hk (.slot t j) (hslot t j) b k hx) (q38 rfl ht))
 .by_cases ho:o<s.heap.length;·rw[List.getElem?_append_left ho]at hcs';exact(h.heap o cs' hcs').ext hE hm (hk (.blk o) (hold o ho 0).2) (fun j c _ _=>hk (.cell o j) (hold o ho j).1)
  .have hlt:=(List.getElem?_eq_some_iff.1 hcs').1;have:o=s.heap.length:=by grind
   subst this;simp at hcs';subst hcs';refine .inl ⟨w.heap.size,vs,e,by simp[X',<-h.mu],by grind,heap_alloc_new w _,hn,fun j c hj=>⟨RVl.ext hE hm (fun b k hx=>?_) (hh j c hj),trivial⟩⟩;have hb:=h.gdom b _ k hx;have:b≠w.heap.size:=by omega
   refine⟨?_,heap_alloc_old w _ b hb⟩;simp only[X',this,if_false];rw[Cx.remap_some hx];rfl
 .simp only[X']at hx;split at hx;·simp_all
  .simp only[Cx.remap]at hx;split at hx;·rename_i l0 k0 h0;have:=h.gdom b l0 k0 h0;simp;omega
   simp_all
 .simp only[X']at hx;split at hx;·rename_i hb;intro o;exact h.amb b o (by omega)
  .simp only[Cx.remap]at hx;split at hx;·rename_i l0 k0 h0;exact h.oamb b l0 k0 h0
   simp_all
 .obtain⟨u,h1,h2,h3⟩:=h.glob g cs' hg j c hj;exact⟨u,(hE.point h1 h2).1,(hE.point h1 h2).2,hE.rep h3⟩
end Go.Ab

namespace Go.Ab
variable {E : Env0} {X : Cx} {s : St} {a : Act} {w : World} {c : AV} {u : Value} {b off : Nat} {cs : List AV} {us : List Value} {cur : Array Value} {e t : TypeId} {ds : List D}
def φres:Loc->Option Loc|.res _=>none|l=>some l
theorem Rel.dropRes(h:Rel E X s a w):Rel E (X.remap φres) s a w:=by
 refine h.bg (Ext.remap X w φres) rfl (fun l hl _ _ b k hx=>⟨?_,rfl⟩) (fun b l k hx=>?_);·rw[Cx.remap_some hx];cases l<;>first|rfl|cases hl
 .simp only[Cx.remap]at hx;split at hx;·rename_i l0 k0 h0;exact⟨h.gdom b l0 k0 h0,h.oamb b l0 k0 h0⟩
  simp_all
theorem RVl.frozen(h:Rel E X s a w){j:Nat}{d:D}(hr:RVl w X (.res j) c u)(hf:q03 c=some d):Rep w (X.remap φres).imm d u:=by
 cases c<;>simp[q03]at hf;·subst hf;exact(Ext.remap X w φres).rep hr
 .subst hf;exact OwnOk.frozen (φ:=φres) rfl h.oamb hr
theorem q6v(l us:List Value)(o j:Nat)(h:o+us.length<=l.length):(l.take o++us++l.drop (o+us.length))[j]?=if o<=j/\j<o+us.length then us[j-o]? else l[j]?:=by
 by_cases h1:j<o;·rw[if_neg (by omega),List.append_assoc,List.getElem?_append_left (by simp;omega),List.getElem?_take,if_pos h1]
 grind
theorem qed(l us:List AV)(o j:Nat)(h:o+us.length<=l.length):(l.take o++us++l.drop (o+us.length))[j]?=if o<=j/\j<o+us.length then us[j-o]? else l[j]?:=by
 by_cases h1:j<o;·rw[if_neg (by omega),List.append_assoc,List.getElem?_append_left (by simp;omega),List.getElem?_take,if_pos h1]
 grind
theorem Rel.writeVar(h:Rel E X s a w){o:Nat}{vs:List AV}(hcs:s.heap[o]?=some cs)(hle:off+vs.length<=cs.length)(hlen:us.length=vs.length)(hb:X.mu[o]?=some (.blk b))(hw:w.heap[b]?=some (.cells cur e (0,0)))(hh:∀(j:Nat)c,vs[j]?=some c->RVl w X (.res j) c (us.getD j undef))(env':Env)(henv:∀t,get env' t=if((cs.drop off).take vs.length++vs).any AV.isOwn&&hits [o] (get s.env t)then .undef else get s.env t):∃X',X'.mu=X.mu/\Ext X w X' (w.setRow b (cur.toList.take off++us++cur.toList.drop (off+us.length)).toArray)/\Rel E X' {env:=env',heap:=s.heap.set o (cs.take off++vs++cs.drop (off+vs.length))} a (w.setRow b (cur.toList.take off++us++cur.toList.drop (off+us.length)).toArray):=by
 obtain⟨cur',e',hg,hw',hn,hh'⟩:=(h.heap o cs hcs).real hb;rw[hw]at hw';cases hw';generalize hW:w.setRow b (cur.toList.take off++us++cur.toList.drop (off+us.length)).toArray=w';have hocs:=(List.getElem?_eq_some_iff.1 hcs).1;have hother:∀k,k≠b->w'.heap[k]?=w.heap[k]?:=fun k hk=>by rw[<-hW];exact setRow_other w b k _ hk
 have hnew:w'.heap[b]?=some (.cells (cur.toList.take off++us++cur.toList.drop (off+us.length)).toArray e (0,0)):=by rw[<-hW];exact setRow_heap w b cur _ e _ hw
 have hcellat:∀j,w'.cell? ⟨b,j,none⟩=if off<=j/\j<off+us.length then us[j-off]? else cur[j]?:=by intro j;rw[cell_of_row w' b j _ e (0,0) hnew];have:=q6v cur.toList us off j (by simp;omega);simp_all
 let φ:Loc->Option Loc:=fun|.cell o' j=>if o'=o/\off<=j/\j<off+vs.length then none else some (.cell o' j)|.res j=>some (.cell o (off+j))|l=>some l;have hE:Ext X w (X.remap φ) w':=by
  have h0:=Ext.remap X w φ;refine⟨rfl,by rw[<-hW];simp,by rw[<-hW];rfl,by rw[<-hW];rfl,by rw[<-hW];rfl,fun k hk hx=>⟨(h0.free k hk hx).1,hother k (fun e=>by simp_all)⟩,fun k l n hx=>⟨(h0.own k l n hx).1,fun q hq=>?_⟩⟩;by_cases ek:k=b;·grind
  .exact cell?_of_heap (hother k ek) q
 have hm:∀(o:Nat)b,X.mu[o]?=some b->(X.remap φ).mu[o]?=some b:=fun o b e=>e;have hk:∀l,φ l=some l->l≠.blk o->q4t X w (X.remap φ) w' l:=by intro l hl hne k n hx;refine⟨by rw[Cx.remap_some hx,hl];rfl,hother k (fun e=>?_)⟩;simp_all
 have hGd:∀b' l k,(X.remap φ).G b'=some (l,k)->∃l0 k0,X.G b'=some (l0,k0):=by intro b' l k hx;simp only[Cx.remap]at hx;grind
 have hmuinj:∀o':Nat,X.mu[o']?=some (.blk b)->(s.heap[o']?).isSome=true->o'=o:=by intro o' h1 h2;cases hx:s.heap[o']? with|none=>simp_all|some cs'=>obtain⟨_,_,g2,_⟩:=(h.heap o' cs' hx).real h1;simp_all
 have hct:∀p,content {env:=env',heap:=s.heap.set o (cs.take off++vs++cs.drop (off+vs.length))} p=match p with|.slot t=>get env' t|.cell o' j=>if o'=o then(if off<=j/\j<off+vs.length then(vs[j-off]?).getD .undef else(cs[j]?).getD .undef)else content s (.cell o' j):=by intro p;cases p with|slot t=>rfl|cell o' j=>
   simp only[content,q0i,List.getElem?_set];by_cases e1:o=o';·subst e1;simp only[if_true,hocs];rw[qed cs vs off j hle];split<;>rfl
   grind
 have hplaced:∀(c:AV)(x:Value)(L:Nat->Loc),c.placed=true->(((cs.drop off).take vs.length++vs).any AV.isOwn=false\/hits [o] c=false)->RVe X s a w L c x->RVe (X.remap φ) {env:=env',heap:=s.heap.set o (cs.take off++vs++cs.drop (off+vs.length))} a w' L c x:=by
  intro c x L hp hno hc;have hnoown:((cs.drop off).take vs.length++vs).any AV.isOwn=false->∀(y:AV),y∈vs->y.isOwn=false:=fun hno y hy=>by grind
  have hown:∀p,(((cs.drop off).take vs.length++vs).any AV.isOwn=false\/∀j,p≠.cell o j)->(content {env:=env',heap:=s.heap.set o (cs.take off++vs++cs.drop (off+vs.length))} p).isOwn=true->inR s p->content {env:=env',heap:=s.heap.set o (cs.take off++vs++cs.drop (off+vs.length))} p=content s p/\cval (X.remap φ) a w' p=cval X a w p:=by intro p hd hp' hin;rw[hct]at hp'⊢;cases p with
   |slot t=>
    refine⟨?_,rfl⟩;simp only at hp'⊢;rw[henv]at hp'⊢;split at hp';·cases hp'
    .rename_i hk1;rw[if_neg hk1];rfl|cell o' j=>
    simp only at hp'⊢;have ho':=hin o' j rfl;by_cases e1:o'=o
    .subst e1;have hno:=hd.resolve_right (fun hn=>hn j rfl);simp only[if_true]at hp'⊢;by_cases e2:off<=j/\j<off+vs.length;·grind
     .simp only[e2,if_false];refine⟨by simp[content,q0i,hcs],?_⟩;simp only[cval,hb,Cx.remap];rw[hcellat j,if_neg (by omega),cell_of_row w b j cur e (0,0) hw]
    .simp only[e1,if_false];refine⟨trivial,?_⟩;simp only[cval,Cx.remap];cases hx:X.mu[o']? with|none=>rfl|some hm2=>cases hm2 with|head v=>rfl|blk b2=>simp only;refine cell?_of_heap (hother b2 (fun e=>e1 (hmuinj o' (by grind) (by grind)))) j
  have hin':∀p,inR s p->inR {env:=env',heap:=s.heap.set o (cs.take off++vs++cs.drop (off+vs.length))} p:=fun p hp o' j e=>by simpa using hp o' j e
  have hnot:∀p,(c=.loc p\/(∃i q,c=.elt p i q)\/∃i q,c=.seg p i q)->(((cs.drop off).take vs.length++vs).any AV.isOwn=false\/∀j,p≠.cell o j):=by intro p hpc;refine hno.imp_right fun hh j e=>?_;subst e;rcases hpc with rfl|⟨i,q,rfl⟩|⟨i,q,rfl⟩<;>simp[hits,qa6,AV.placed]at hh
  cases c with|loc p=>refine⟨hin' p hc.1,fun ho=>?_⟩;obtain⟨e1,e2⟩:=hown p (hnot p (.inl rfl)) ho hc.1;rw[e2];exact hc.2 (by grind)|elt p i q=>refine⟨hin' p hc.1,fun xs l ho=>?_⟩;obtain⟨e1,e2⟩:=hown p (hnot p (.inr (.inl ⟨_,_,rfl⟩))) (by rw[ho];rfl) hc.1;rw[e2];exact hc.2 xs l (by grind)|seg p i q=>refine⟨hin' p hc.1,fun xs l ho=>?_⟩;obtain⟨e1,e2⟩:=hown p (hnot p (.inr (.inr ⟨_,_,rfl⟩))) (by rw[ho];rfl) hc.1;rw[e2];exact hc.2 xs l (by grind)|_=>cases hp
 refine⟨X.remap φ,rfl,hE,⟨fun t=>?_,fun t ht=>?_,by simpa[Cx.remap]using h.mu,fun o' cs' hcs'=>?_,fun b' l k hx=>?_,fun b' q hb'=>h.amb b' q (by rw[<-hW]at hb';simpa using hb'),fun b' l k hx=>?_,fun g gs hg' j c hj=>?_,h.defers⟩⟩
 .show RVe _ _ a w' _ (get env' t) _;rw[henv];have ht:=h.env t;by_cases hkill:(((cs.drop off).take vs.length++vs).any AV.isOwn&&hits [o] (get s.env t))=true;·rw[if_pos hkill];trivial
  .rw[if_neg hkill];generalize get s.env t=c at ht hkill;by_cases hp:c.placed=true;·grind
   .exact q1d (RVs.ext hE hm (fun j b k hx=>hk (.slot t j) rfl (by simp) b k hx) (q38 (by grind) ht))
 .obtain⟨c,hc,hne⟩:=ht;have hc':get env' t=c:=hc;rw[henv]at hc';split at hc';·grind
  .exact h.bound t ⟨c,hc',hne⟩
 .simp only[List.getElem?_set]at hcs';by_cases e1:o=o'
  .subst e1;simp only[if_true,hocs,sI]at hcs';subst hcs';refine .inl ⟨b,_,e,hb,by rw[Cx.remap_some hg];rfl,hnew,by grind,fun j c hj=>⟨?_,trivial⟩⟩;have hval:(cur.toList.take off++us++cur.toList.drop (off+us.length)).toArray.getD j undef=(if off<=j/\j<off+us.length then us.getD (j-off) undef else cur.getD j undef):=by have:=q6v cur.toList us off j (by grind);simp only[Array.getD_eq_getD_getElem?,List.getElem?_toArray,this];split<;>simp
   rw[hval];rw[qed cs vs off j hle]at hj;by_cases e2:off<=j/\j<off+vs.length;·rw[if_pos e2]at hj;rw[if_pos (by rw[hlen];exact e2)];refine RVl.ext hE hm (fun k n hx=>⟨by rw[Cx.remap_some hx];simp[φ];omega,hother k (fun e3=>?_)⟩) (hh (j-off) c hj);grind
   .rw[if_neg e2]at hj;rw[if_neg (by omega)];refine RVl.ext hE hm (fun k n hx=>hk (.cell o j) (by grind) (by simp) k n hx) (hh' j c hj).1
  .simp only[e1,if_false]at hcs';exact(h.heap o' cs' hcs').ext hE hm (hk (.blk o') rfl (by grind)) (fun j c _ _=>hk (.cell o' j) (by grind) (by simp))
 .obtain⟨l0,k0,h0⟩:=hGd b' l k hx;rw[<-hW];simpa using h.gdom b' l0 k0 h0
 .obtain⟨l0,k0,h0⟩:=hGd b' l k hx;exact h.oamb b' l0 k0 h0
 .obtain⟨u,h1,h2,h3⟩:=h.glob g gs hg' j c hj;exact⟨u,(hE.point h1 h2).1,(hE.point h1 h2).2,hE.rep h3⟩
theorem qk0{P:Program}{n:Nat}{val:Value}(hn:q0f P t=some n)(hv:val.cells.size=n)(hw:w.heap[b]?=some (.cells cur e (0,0)))(hle:off+n<=cur.size)(h1:∀u∈val.cells,u.oneCell'=true):(storeVar t ⟨b,off,none⟩ val).run P w=.ok () (w.setRow b (cur.toList.take off++val.cells.toList++cur.toList.drop (off+val.cells.toList.length)).toArray):=by have:=run_storeCells_at (P:=P) b off e val.cells.toList 0 cur w hw (by simp_all) (fun v hv=>h1 v (by simp_all));simp only[Nat.add_zero]at this;simp[storeVar,q1q hn,hv,this]
theorem quu{l:Loc}(hl:qsd c=true)(h:RVl w X l c u):u.oneCell'=true:=by cases c with
 |d x=>have h':Rep w X.imm x u:=h;cases h' with|v y h1=>omega|empty a c=>rfl|list xs b off cap sz V hs hc hh hr=>rfl|agg cs vs hn hr=>cases hl
 |own xs lt=>rcases h with⟨_,a,rfl⟩|⟨_,_,a,n,rfl⟩|⟨b,cap,cur,e1,sz,rfl,_⟩<;>rfl|ptr o off=>obtain⟨b,hb,rfl⟩:=h;rfl|view cs=>obtain⟨b,off,rfl,_⟩:=h;rfl|fn f caps=>obtain⟨vs,rfl,_⟩:=h;rfl|_=>cases hl
theorem Rel.writeElt(h:Rel E X s a w){p:Place}{xs:List D}{i:Nat}{x:D}{L:Nat->Loc}{v:Value}(hc:content s p=.own xs false)(hx:xs[i]?=some x)(hle:off+ds.length<=x.cells.length)(hpos:0<ds.length)(hlen:us.length=ds.length)(hna:∀d∈ds,d.isAgg=false)(hr:∀(j:Nat)d,ds[j]?=some d->Rep w X.imm d (us.getD j undef))(hv:RVe X s a w L (.elt p i off) v):∃b o cur e,v=.pointer (some ⟨b,o,none⟩)/\w.heap[b]?=some (.cells cur e (0,0))/\o+us.length<=cur.size/\X.G b=some (locOf p,0)/\Ext X w X (w.setRow b (cur.toList.take o++us++cur.toList.drop (o+us.length)).toArray)/\Rel E X (lendPlace s p (.own (xs.set i (q7a x off ds)) false)) a (w.setRow b (cur.toList.take o++us++cur.toList.drop (o+us.length)).toArray):=by
 obtain⟨val,hval,hown⟩:=h.place hc (by simp) rfl (by simp) (by simp);obtain⟨b1,o0,n1,cap1,sz1,g1,g2,g3⟩:=hv.2 xs false hc;rw[hval]at g1;have hxm:=List.mem_of_getElem? hx;have hil:=(List.getElem?_eq_some_iff.1 hx).1;rcases hown with⟨rfl,_⟩|⟨h0,_⟩|⟨b,cap,cur,e,sz,rfl,hg,hw,hs,hz,hne,hsz,hcap,hmax,hcells⟩;·simp at hx
 .cases h0
 simp only[sI,Value.slice.injEq]at g1;obtain⟨ga,_,_⟩:=g1;simp only[Addr.mk.injEq,and_true]at ga;obtain⟨rfl,rfl⟩:=ga;have hszx:x.cells.length=sz:=hs x hxm;have hsz1:sz1=sz:=by rw[<-hszx,g2 x hxm]
 subst hsz1;simp only[fT,if_false]at hg;rw[Nat.zero_add]at g3;have hbound:(i+1)*sz1<=cap*sz1:=Nat.mul_le_mul_right _ (by omega);rw[Nat.add_mul]at hbound;have hfit:i*sz1+off+us.length<=cur.size:=by omega
 refine⟨b,i*sz1+off,cur,e,g3,hw,hfit,hg,?_⟩;generalize hW:w.setRow b (cur.toList.take (i*sz1+off)++us++cur.toList.drop (i*sz1+off+us.length)).toArray=w';have hother:∀k,k≠b->w'.heap[k]?=w.heap[k]?:=fun k hk=>by rw[<-hW];exact setRow_other w b k _ hk
 have hnew:w'.heap[b]?=some (.cells (cur.toList.take (i*sz1+off)++us++cur.toList.drop (i*sz1+off+us.length)).toArray e (0,0)):=by rw[<-hW];exact setRow_heap w b cur _ e _ hw
 have hE:Ext X w X w':=by
  refine⟨rfl,by rw[<-hW];simp,by rw[<-hW];rfl,by rw[<-hW];rfl,by rw[<-hW];rfl,fun k hk hx'=>⟨hx',hother k (fun e=>by rw[e,hg]at hx';cases hx')⟩,fun k l n hx'=>⟨fun l' k' h'=>by rw[hx']at h';simp only[sI,pI]at h';omega,fun q hq=>?_⟩⟩;by_cases ek:k=b;·subst ek;rw[hg]at hx';simp only[sI,pI]at hx';omega
  .exact cell?_of_heap (hother k ek) q
 have hk:∀l,l≠locOf p->q4t X w X w' l:=fun l hl k n hx'=>⟨hx',hother k (fun e=>by rw[e,hg]at hx';simp only[sI,pI]at hx';exact hl hx'.1.symm)⟩;have hnac:∀d:D,d.isAgg=false->d.cells=[d]:=fun d hd=>by cases d<;>first|rfl|cases hd
 have hpb:∀y:D,y=q7a x off ds->y.cells.length=x.cells.length/\∀(j:Nat)c,y.cells[j]?=some c->(off<=j/\j<off+ds.length/\ds[j-off]?=some c)\/(¬(off<=j/\j<off+ds.length)/\x.cells[j]?=some c):=by
  rintro y rfl;have single:x.cells=[x]->q7a x off ds=ds.headD x->(q7a x off ds).cells.length=x.cells.length/\∀(j:Nat)c,(q7a x off ds).cells[j]?=some c->(off<=j/\j<off+ds.length/\ds[j-off]?=some c)\/(¬(off<=j/\j<off+ds.length)/\x.cells[j]?=some c):=by
   intro e1 e2;rw[e1]at hle;simp only[List.length_singleton]at hle;have h1:ds.length=1:=by omega
   have h2:off=0:=by omega
   subst h2;obtain⟨d0,rfl⟩:=List.length_eq_one_iff.1 h1;rw[e2,e1,List.headD_cons,hnac d0 (hna d0 (by simp))];refine⟨rfl,fun j c hj=>?_⟩;cases j with|zero=>exact .inl ⟨Nat.le_refl _,by simp,by simpa using hj⟩|succ j=>simp at hj
  cases x with|v y=>exact single rfl rfl|list ys=>exact single rfl rfl|agg cs=>
   simp only[D.cells]at hle⊢;have hl2:off+ds.length<=cs.length:=hle;refine⟨by simp[q7a];omega,fun j c hj=>?_⟩;simp only[q7a]at hj;by_cases h1:j<off;·rw[List.append_assoc,List.getElem?_append_left (by simp;omega),List.getElem?_take,if_pos h1]at hj;exact .inr ⟨by omega,hj⟩
   .by_cases h2:j<off+ds.length;·rw[List.append_assoc,List.getElem?_append_right (by simp;omega),List.getElem?_append_left (by simp;omega)]at hj;refine .inl ⟨by omega,h2,?_⟩;rw[<-hj];congr 1;simp;omega
    .rw[List.getElem?_append_right (by simp;omega),List.getElem?_drop]at hj;refine .inr ⟨by omega,?_⟩;rw[<-hj];congr 1;simp;omega
 obtain⟨hyl,hyc⟩:=hpb _ rfl;refine⟨hE,h.ownUpdate hc hval rfl hE hk (fun b' l k e'=>⟨by rw[<-hW];simpa using h.gdom b' l k e',h.oamb b' l k e'⟩) ?_ (fun sz hs'=>fun y hy=>?_)⟩
 .refine .inr (.inr ⟨b,cap,_,e,sz1,by simp,by simpa using hg,hnew,fun y hy=>?_,hz,by simpa using hne,by simp;omega,by simpa using hcap,hmax,fun i' x' hx' j c hj=>?_⟩)
  .rcases List.mem_or_eq_of_mem_set hy with hy|rfl;·exact hs y hy
   .rw[hyl,hszx]
  .have hget:=q6v cur.toList us (i*sz1+off) (i'*sz1+j) (by simp;omega);have hjs:j<sz1:=by
    have hm':=List.mem_of_getElem? hx';have:=(List.getElem?_eq_some_iff.1 hj).1;rcases List.mem_or_eq_of_mem_set hm' with hy|rfl;·rw[hs _ hy]at this;exact this
    .rw[hyl,hszx]at this;exact this
   rw[List.getElem?_set]at hx';by_cases ei:i=i'
   .subst ei;simp only[if_true,hil,sI]at hx';subst hx';rcases hyc j c hj with⟨h1,h2,h3⟩|⟨h1,h3⟩
    .have hul:j-off<us.length:=by omega
     have e1:i*sz1+j-(i*sz1+off)=j-off:=by omega
     refine⟨us[j-off],?_,?_⟩;·rw[List.getElem?_toArray,hget,if_pos ⟨by omega,by omega⟩,e1];simp[hul]
     .have:=hr (j-off) c h3;have e2:us.getD (j-off) undef=us[j-off]:=by simp[hul]
      rw[e2]at this;exact hE.rep this
    .obtain⟨u,hu,hru⟩:=hcells i x hx j c h3;refine⟨u,?_,hE.rep hru⟩;rw[List.getElem?_toArray,hget,if_neg (by omega)];simpa using hu
   .simp only[ei,if_false]at hx';obtain⟨u,hu,hru⟩:=hcells i' x' hx' j c hj;refine⟨u,?_,hE.rep hru⟩;rw[List.getElem?_toArray,hget,if_neg ?_];·simpa using hu
    .rintro⟨h1,h2⟩;rcases Nat.lt_or_gt_of_ne ei with hlt|hgt;·have:(i+1)*sz1<=i'*sz1:=Nat.mul_le_mul_right _ (by omega);rw[Nat.add_mul]at this;omega
     .have:(i'+1)*sz1<=i*sz1:=Nat.mul_le_mul_right _ (by omega);rw[Nat.add_mul]at this;omega
 grind
theorem q10(objs:List Nat):∀(e:Env)(t:Nat),get (q11 objs e) t=if hits objs (get e t)then .undef else get e t
 |[],t=>by rfl|(k,v)::r,t=>by
  simp only[q11];have ih:=q10 objs r t;by_cases hk:hits objs v=true
  .rw[if_pos hk,q6q];by_cases h:k=t;·simp only[h,if_true,get];simp_all
   .simp only[h,if_false,get];omega
  .rw[if_neg hk];by_cases h:k=t;·simp only[h,if_true,get];simp_all
   .simp only[h,if_false,get];omega
theorem y66(s:St)(o:Nat)(l:List AV)(t:Nat):get (if l.any AV.isOwn then q11 [o] s.env else s.env) t=if l.any AV.isOwn&&hits [o] (get s.env t)then .undef else get s.env t:=by cases l.any AV.isOwn<;>simp[q10]
theorem qqv(h:q0s cs=some ds)(hl:cs.all qsd=true):∀d∈ds,d.isAgg=false:=by
 intro d hd;obtain⟨j,hj,rfl⟩:=List.mem_iff_getElem.1 hd;obtain⟨h1,h2⟩:=q2s h;obtain⟨d',hd',hf⟩:=h2 j cs[j] (by simp);have hlf:=List.all_eq_true.1 hl cs[j] (List.getElem_mem _);have e:ds[j]?=some ds[j]:=by simp
 rw[e]at hd';cases hd';generalize cs[j]=c at hf hlf;cases c<;>simp[q03]at hf;·subst hf;revert hlf;generalize ds[j]=y;intro hlf;cases y<;>first|rfl|cases hlf
 .rw[<-hf];rfl
theorem qqy{s1:St}{ad x:Operand}(h:Rel E X s a w)(o:Oper)(ho:o.op=.store t ad x)(hp:q62 E t ad x s=some s1):∃w1 X1,(execOp a.eval o).run E.P w=.ok .skip w1/\(∃more,X1.mu=X.mu++more)/\Ext X w X1 w1/\Rel E X1 s1 a w1/\∀(o':Nat)b',X.mu[o']?=some (.blk b')->(∀off,ev E s ad≠.ptr o' off)->w1.heap[b']?=w.heap[b']?:=by unfold q62 at hp;cases hm:q3f (ev E s x)with|none=>simp_all|some v=>cases hg:tyAgg E.P t with|none=>simp_all|some g=>cases hn:q0f E.P t with|none=>simp_all|some n=>
    simp only[hm,hg,hn]at hp;split at hp
    .rename_i hcond;obtain⟨hlen,hleaf⟩:=hcond;obtain⟨X1,hmu,hE,hR,hrv,hk,hG,hpl⟩:=h.take hm 0;have hvm:q3f v=some v:=by generalize ev E s x=c at hm;cases c<;>simp[q3f]at hm<;>subst hm<;>rfl
     simp only[Nat.zero_add]at hrv;obtain⟨hsz,hcells⟩:=qnw hvm hrv;have h1:∀u∈(a.eval x).cells,u.oneCell'=true:=by
      intro u hu;obtain⟨j,hj,rfl⟩:=Array.mem_iff_getElem.1 hu;have hjl:j<v.cells.length:=by omega
      have:=hcells j v.cells[j] (by simp[hjl]);have e:(a.eval x).cells.getD j undef=(a.eval x).cells[j]:=by simp[Array.getD,hj]
      rw[e]at this;exact quu (List.all_eq_true.1 hleaf _ (List.getElem_mem _)) this
     have run:∀{b off:Nat}{cur:Array Value}{e:TypeId},a.eval ad=.pointer (some ⟨b,off,none⟩)->w.heap[b]?=some (.cells cur e (0,0))->off+n<=cur.size->(execOp a.eval o).run E.P w=.ok .skip (w.setRow b (cur.toList.take off++(a.eval x).cells.toList++cur.toList.drop (off+(a.eval x).cells.toList.length)).toArray):=by intro b off cur e hev hw hle;have:=qk0 (P:=E.P) (w:=w) (t:=t) (n:=n) (val:=a.eval x) hn (by omega) hw hle h1;simp[execOp,ho,hev,Instr.storeAt,Instr.sureAddr,this]
     unfold q1r at hp;generalize had:ev E s ad=c at hp;cases c with
     |ptr ob off=>
      obtain⟨b,hb,hev⟩:=h.ptr had;simp only at hp;have hheap:(s.del (tmpOf x)).heap=s.heap:=by cases x<;>rfl
      cases hcs:(s.del (tmpOf x)).heap[ob]? with|none=>simp[hcs]at hp|some cs=>
       simp only[hcs]at hp;split at hp
       .rename_i hle;simp only[sI]at hp;subst hp;obtain⟨cur,e,hgb,hw,hnc,_⟩:=(hR.heap ob cs hcs).real (b:=b) (by rw[hmu];exact hb);obtain⟨X2,hmu2,hE2,hR2⟩:=hR.writeVar (us:=(a.eval x).cells.toList) hcs hle (by simp[hsz]) (by rw[hmu];exact hb) hw (fun j c hj=>by have:=hcells j c hj;simpa[Array.getD_eq_getD_getElem?]using this) _ (y66 (s.del (tmpOf x)) ob _);refine⟨_,X2,run hev hw (by omega),⟨[],by simp[hmu2,hmu]⟩,Ext.trans h.gdom hE hE2,hR2,fun o' b' ho' hne=>?_⟩;refine setRow_other w b b' _ (fun e1=>?_);have hlt:o'<s.heap.length:=by rw[<-h.mu];exact(List.getElem?_eq_some_iff.1 ho').1
        obtain⟨cur3,e3,q2,_⟩:=(h.heap o' s.heap[o'] (by simp[hlt])).real ho';rw[hheap]at hcs;obtain⟨cur4,e4,q4,_⟩:=(h.heap ob cs hcs).real hb;rw[e1,q4]at q2;simp only[sI,pI,Loc.blk.injEq,and_true]at q2;subst q2;exact hne off rfl
       .cases hp
     |elt p i off=>obtain⟨L,hra⟩:=h.operand ad;rw[had]at hra;have hra':=hpl (.elt p i off) L .res _ rfl hra;simp only at hp;cases hct:content (s.del (tmpOf x)) p with
      |own xs l=>cases l with|true=>simp[hct]at hp|false=>cases hf:q0s v.cells with|none=>simp[hct,hf]at hp|some ds=>simp only[hct,hf]at hp;cases hx:xs[i]? with|none=>simp[hx]at hp|some y=>
          simp only[hx]at hp;split at hp
          .rename_i hc2;simp only[sI]at hp;subst hp;obtain⟨hfl,hfg⟩:=q2s hf;have hR':=hR.dropRes;obtain⟨b,o',cur,e,hev,hw,hle,hgb,hE2,hR2⟩:=hR'.writeElt (us:=(a.eval x).cells.toList) hct hx hc2.1 hc2.2 (by simp[hsz,hfl]) (qqv hf hleaf) (fun j d hj=>by
             have hjl:j<v.cells.length:=by rw[<-hfl];exact(List.getElem?_eq_some_iff.1 hj).1
             obtain⟨d',hd',hfd⟩:=hfg j v.cells[j] (by simp[hjl]);rw[hj]at hd';cases hd';have:=RVl.frozen hR (hcells j v.cells[j] (by simp[hjl])) hfd;simpa[Array.getD_eq_getD_getElem?]using this) (L:=.res) (v:=a.eval ad) (by refine⟨hra'.1,fun xs l hxs=>?_⟩;obtain⟨b,o0,n',cap,sz,g1,g2,g3⟩:=hra'.2 xs l hxs;exact⟨b,o0,n',cap,sz,by cases p<;>exact g1,g2,g3⟩);have hul:(a.eval x).cells.toList.length=n:=by simp;omega
           refine⟨_,X1.remap φres,run hev hw (by omega),⟨[],by simp[Cx.remap,hmu]⟩,Ext.trans h.gdom (Ext.trans h.gdom hE (Ext.remap X1 w φres)) hE2,hR2,fun o1 b' ho1 hne=>?_⟩;refine setRow_other w b b' _ (fun e1=>?_);have hheap:(s.del (tmpOf x)).heap=s.heap:=by cases x<;>rfl
           have hlt:o1<s.heap.length:=by rw[<-h.mu];exact(List.getElem?_eq_some_iff.1 ho1).1
           have q0:(X1.remap φres).mu[o1]?=some (.blk b'):=by show X1.mu[o1]?=_;rw[hmu];exact ho1
           obtain⟨cur3,e3,q2,_⟩:=(hR'.heap o1 s.heap[o1] (by rw[hheap];simp[hlt])).real q0;rw[e1,hgb]at q2;cases p<;>simp[locOf]at q2
          .cases hp
      |_=>simp[hct]at hp
     |_=>simp at hp
    simp_all
end Go.Ab

namespace Go.Ab
variable {x y : Operand} {v : AV} {d : D} {dst e src t u : TypeId} {P : Program} {p r : Value} {cs xs ys : List D} {k : IntKind} {n : Int} {b i len o off sz : Nat} {vs : Array Value} {w' : World}
variable {E : Env0} {X : Cx} {s s1 : St} {a : Act} {w : World}
theorem Rel.val(h:Rel E X s a w){v:Value}(hx:plainC E s x=some (.v v)):a.eval x=v:=q0t (q74 h hx)
theorem Rel.evv(h:Rel E X s a w){v:Value}(hx:ev E s x=.d (.v v)):a.eval x=v:=by obtain⟨L,hr⟩:=h.operand x;rw[hx]at hr;exact q0t hr
theorem Rel.evd(h:Rel E X s a w)(hx:ev E s x=.d d):Rep w X.imm d (a.eval x):=by obtain⟨L,hr⟩:=h.operand x;rw[hx]at hr;exact hr
theorem qzv(h:Rel E X s a w)(o:Oper){c:Operand}(ho:o.op=.pick c x y){t:Bool}(hc:ev E s c=.d (.v (.bool t)))(hp:plainC E s (if t then x else y)=some d):Sound E X a w ((execOp a.eval o).run E.P w) (.d d) s:=by have h1:=h.evv hc;have h2:=q74 h hp;refine Sound.same (val:=a.eval (if t then x else y)) h ?_ (RVe_d h2);cases t<;>simp[execOp,ho,h1,asBool]
theorem qol(h:Rel E X s a w)(o:Oper)(ho:o.op=.nilCheck x)(hp:(match ev E s x with|.ptr o off=>some (AV.ptr o off,s)|.view cs=>some (.view cs,s)|.elt p i off=>if(content s p).isOwn then some (.elt p i off,s)else none|.fn f cs=>some (.fn f cs,s)|_=>none)=some (v,s1)):Sound E X a w ((execOp a.eval o).run E.P w) v s1:=by obtain⟨L,hr⟩:=h.operand x;generalize hc:ev E s x=c at hp hr;cases c with
 |ptr ob off=>simp only[sI,pI]at hp;obtain⟨rfl,rfl⟩:=hp;obtain⟨b,hb,hv⟩:=id hr;exact Sound.same h (val:=a.eval x) (by simp[execOp,ho,hv]) hr|view cs=>simp only[sI,pI]at hp;obtain⟨rfl,rfl⟩:=hp;obtain⟨b,off,hv,_⟩:=id hr;exact Sound.same h (val:=a.eval x) (by simp[execOp,ho,hv]) hr|elt p i off=>
  simp only at hp;split at hp
  .rename_i hown;simp only[sI,pI]at hp;obtain⟨rfl,rfl⟩:=hp;obtain⟨xs,l,hxs⟩:∃xs l,content s p=.own xs l:=by generalize content s p=c at hown;cases c<;>first|exact⟨_,_,rfl⟩|cases hown
   obtain⟨b,o0,n,cap,sz,_,_,hv⟩:=hr.2 xs l hxs;exact Sound.same h (val:=a.eval x) (by simp[execOp,ho,hv]) hr
  simp_all|fn f cs=>simp only[sI,pI]at hp;obtain⟨rfl,rfl⟩:=hp;obtain⟨vs,hv,_⟩:=id hr;exact Sound.same h (val:=a.eval x) (by simp[execOp,ho,hv]) hr|_=>grind
theorem qev{w:World}(op:BinOp)(t:TypeId)(x y:Operand)(u v:Value)(h:(∀cs,u≠.agg cs)/\u≠.nilIface):(eqGuard op t x y u v).run P w=.ok () w:=by cases u<;>first|exact absurd rfl h.2|exact absurd rfl (h.1 _)|(unfold eqGuard;cases op<;>simp)
theorem qad(l:List UInt8):(ByteArray.mk ⟨l⟩).toList=l:=by simp
theorem y4n(a b:Int):(a==b)=decide (a=b):=by rfl
theorem y9m(a b:Int):(a !=b)=!decide (a=b):=by rfl
theorem qs8(a b:List UInt8):(a==b)=decide (a=b):=by grind
theorem qk1(a b:List UInt8):(ByteArray.mk ⟨a⟩++ByteArray.mk ⟨b⟩)=ByteArray.mk ⟨a++b⟩:=by rfl
theorem q8w(a:List UInt8):(ByteArray.mk ⟨a⟩).size=a.length:=rfl
theorem y6s{w:World}{op:BinOp}{x y:Value}(h:binV op x y=some r):(binOp op t x y).run P w=.ok r w/\r.oneCell'=true/\(∀cs,x≠.agg cs)/\x≠.nilIface:=by
 have fin:∀{v:Value},v=r->(binOp op t x y).run P w=.ok v w->v.oneCell'=true->(∀cs,x≠.agg cs)->x≠.nilIface->(binOp op t x y).run P w=.ok r w/\r.oneCell'=true/\(∀cs,x≠.agg cs)/\x≠.nilIface:=by simp_all
 unfold binV at h;split at h;all_goals try(split at h)
 all_goals try(cases h;done)
 all_goals(simp only[sI]at h)
 all_goals(refine fin h ?_ rfl (by simp) (by simp))
 all_goals first|(simp[binOp,Op.intArith,Op.intBits,Op.intCmp,Op.intDiv,Op.shift,Op.stringOp, *];done)|(simp only[binOp,Op.intCmp,y4n,y9m];simp[*];done)|(simp only[binOp,Op.stringOp,qad,qs8,qk1,q8w];simp;done)|(rename_i hle;simp only[binOp,Op.stringOp,qk1,q8w];rw[if_neg (by simp[IntKind.max,IntKind.bits];omega)];rfl)|skip
theorem qxe{w:World}{op:BinOp}{u v:Value}(h:binT P op t u v=some r):(do eqGuard op t x y u v;binOp op t u v:Sem Value).run P w=.ok r w/\r.oneCell'=true:=by
 unfold binT at h;split at h
 .rename_i p q;split at h;·rename_i hu;simp only[sI]at h;subst h;refine⟨?_,rfl⟩;rw[Sem.run_bind,qev _ _ _ _ _ _ ⟨by simp,by simp⟩];simp[binOp,run_equal_bool w t p q hu]
  .rename_i hu;simp only[sI]at h;subst h;refine⟨?_,rfl⟩;rw[Sem.run_bind,qev _ _ _ _ _ _ ⟨by simp,by simp⟩];simp[binOp,run_equal_bool w t p q hu]
  grind
 .obtain⟨h1,h2,h3,h4⟩:=y6s (P:=P) (w:=w) (t:=t) h;refine⟨?_,h2⟩;rw[Sem.run_bind,qev _ _ _ _ _ _ ⟨h3,h4⟩];exact h1
theorem qwv(h:Rel E X s a w)(o:Oper){op:BinOp}(ho:o.op=.binOp op t x y u){q:Value}(hx:plainC E s x=some (.v p))(hy:plainC E s y=some (.v q))(hr:binT E.P op t p q=some r):Sound E X a w ((execOp a.eval o).run E.P w) (.d (.v r)) s:=by obtain⟨h1,h2⟩:=qxe (w:=w) (x:=x) (y:=y) hr;refine Sound.same (val:=r) h ?_ (RVe_d (.v r h2));simp only[execOp,ho,h.val hx,h.val hy];rw[Sem.run_bind,h1];rfl
theorem y0f(h:Rel E X s a w)(o:Oper){op:UnOp}(ho:o.op=.unOp op t x)(hx:plainC E s x=some (.v p))(hr:unV op p=some r):Sound E X a w ((execOp a.eval o).run E.P w) (.d (.v r)) s:=by
 have h1:=h.val hx;unfold unV at hr;split at hr;·simp only[sI]at hr;subst hr;exact Sound.same h (by simp[execOp,ho,h1,Op.unary]) (RVe_d (.v _ rfl))
 .simp only[sI]at hr;subst hr;exact Sound.same h (by simp[execOp,ho,h1,Op.unary,Op.intArith]) (RVe_d (.v _ rfl))
 simp_all
theorem qpu:∀(ns:List Int)(l:List UInt8),ns.foldl (fun r n=>r.push (UInt8.ofNat n.toNat)) (⟨⟨l⟩⟩:ByteArray)=⟨⟨l++ns.map fun n=>UInt8.ofNat n.toNat⟩⟩|[],l=>by simp|n::ns,l=>by rw[List.foldl_cons,show(⟨⟨l⟩⟩:ByteArray).push (UInt8.ofNat n.toNat)=⟨⟨l++[UInt8.ofNat n.toNat]⟩⟩by simp[ByteArray.push],qpu ns];simp
theorem qpv:∀{xs:List D},xs.all qu4=true->∃ns:List Int,xs=ns.map fun n=>.v (.int .u8 n)
 |[],_=>⟨[],rfl⟩|x::r,h=>by
  rw[List.all_cons,aT]at h;obtain⟨ns,rfl⟩:=qpv h.2;have h1:=h.1;unfold qu4 at h1;split at h1;·rename_i n;exact⟨n::ns,rfl⟩
  .cases h1
theorem y30{I:Nat->Nat->Prop}{v:Value}(hr:Rep w I (.list xs) v)(hb:xs.all qu4=true):(Conv.bytesToString v).run P w=.ok (.string ⟨⟨xs.map qz3⟩⟩) w:=by
 have nil:∀(a:Option Addr)(c:Nat),(Conv.bytesToString (.slice a 0 c)).run P w=.ok (.string ⟨⟨[]⟩⟩) w:=fun a c=>by cases a with|none=>rfl|some a=>exact run_bytesToString w a 0 c [] (run_loadCells_list w a [] (fun j v hj=>by cases hj))
 cases hr with
 |empty a c=>exact nil a c
 |list xs b off cap sz V hs hc hh hr=>obtain⟨ns,rfl⟩:=qpv hb;have:=run_bytesToString (P:=P) w ⟨b,off,none⟩ ns.length cap ns (by have:=run_loadCells_list (P:=P) (w:=w) ⟨b,off,none⟩ (ns.map (Value.int .u8)) (fun j v hj=>by
    rw[List.getElem?_map,Option.map_eq_some_iff]at hj;obtain⟨n,hn,rfl⟩:=hj;have hx:(ns.map fun n=>D.v (.int .u8 n))[j]?=some (.v (.int .u8 n)):=by rw[List.getElem?_map,hn];rfl
    have hz:sz=1:=by rw[<-hs _ (List.mem_of_getElem? hx)];rfl
    have h1:=(hh j _ hx 0 _ rfl).1;have h2:=hr j _ hx 0 _ rfl;rw[hz,Nat.mul_one,Nat.add_zero]at h1;rw[q39,h1];generalize V j 0=u at h2;cases h2;rfl);rwa [List.length_map]at this);rw[List.length_map,this,qpu];simp[qz3,Function.comp_def]
theorem q97(h:Rel E X s a w)(o:Oper)(ho:o.op=.convert src dst x)(hv:q89 E src dst x s=some v):∃b,v=.d (.v (.string b))/\(execOp a.eval o).run E.P w=.ok (.value (.string b)) w:=by
 unfold q89 at hv;split at hv
 .rename_i e xs h1 h2 hx;split at hv
  .rename_i h3;split at hv
   .rename_i hb;cases hv;refine⟨_,rfl,?_⟩;have hr:=q74 h hx;have hsl:∃a' l c,a.eval x=.slice a' l c:=by generalize a.eval x=u at hr;cases hr<;>exact⟨_,_,_,rfl⟩
    obtain⟨a',l,c,hsl⟩:=hsl;rw[hsl]at hr;simp only[execOp,ho,hsl,Sem.run_bind,run_convert_bytes_string w src dst e a' l c (by unfold q1s at h1;grind) h3 h2,y30 hr hb,Result.andThen_ok];rfl
   .cases hv
  .cases hv
 .cases hv
theorem qf1(h:Rel E X s a w)(o:Oper)(ho:o.op=.convert src dst x)(hv:q89 E src dst x s=some v):Sound E X a w ((execOp a.eval o).run E.P w) v s:=by obtain⟨b,rfl,hr⟩:=q97 h o ho hv;exact Sound.same h hr (RVe_d (.v _ rfl))
theorem qj9(h:Rel E X s a w)(o:Oper)(ho:o.op=.convert src dst x){k0 kk:IntKind}(h1:E.P.underlying src=some (.int k0))(h2:E.P.underlying dst=some (.int k))(hx:plainC E s x=some (.v (.int kk n))):Sound E X a w ((execOp a.eval o).run E.P w) (.d (.v (.int k (k.wrap n)))) s:=by have h3:=h.val hx;exact Sound.same h (by simp[execOp,ho,h3,convert,run_underlying h1,run_underlying h2,Conv.intToInt]) (RVe_d (.v _ rfl))
theorem qdq(h:Rel E X s a w)(o:Oper)(ho:o.op=.convert src dst x){b:ByteArray}(h1:E.P.underlying src=some .string)(h2:E.P.underlying dst=some .string)(hx:plainC E s x=some (.v (.string b))):Sound E X a w ((execOp a.eval o).run E.P w) (.d (.v (.string b))) s:=by have h3:=h.val hx;exact Sound.same h (by simp[execOp,ho,h3,convert,run_underlying h1,run_underlying h2]) (RVe_d (.v _ rfl))
theorem qcl(h:q3j P t i=some (off,u)):∃fs f,P.underlying t=some (.struct fs)/\fs[i]?=some f/\f.offset=off/\f.type=u:=by unfold q3j at h;grind
theorem qah{w:World}{n:Nat}(h:q3j P t i=some (off,u))(hn:q0f P u=some (n+1)):(Instr.fieldAt t (.pointer (some ⟨b,o,none⟩)) i).run P w=.ok (.pointer (some ⟨b,o+off,none⟩)) w:=by obtain⟨fs,f,h1,h2,h3,h4⟩:=qcl h;subst h3 h4;simp[Instr.fieldAt,run_underlying h1,h2,Instr.sureAddr,Go.fieldPlace,q1q hn,q39]
theorem qni(h:Rel E X s a w)(o:Oper)(ho:o.op=.fieldAddr t x i){n:Nat}(hf:q3j E.P t i=some (off,u))(hn:q0f E.P u=some (n+1))(hp:(match ev E s x with|.ptr o a=>some (AV.ptr o (a+off),s)|.view cs=>some (.view (cs.drop off),s)|.elt p k a=>if(content s p).isOwn then some (.elt p k (a+off),s)else none|_=>none)=some (v,s1)):Sound E X a w ((execOp a.eval o).run E.P w) v s1:=by obtain⟨L,hr⟩:=h.operand x;generalize hc:ev E s x=c at hp hr;cases c with
 |ptr ob oo=>simp only[sI,pI]at hp;obtain⟨rfl,rfl⟩:=hp;obtain⟨b,hb,hv⟩:=hr;exact Sound.same h (by simp[execOp,ho,hv,qah hf hn]) ⟨b,hb,rfl⟩|view cs=>simp only[sI,pI]at hp;obtain⟨rfl,rfl⟩:=hp;obtain⟨b,oo,hv,hh⟩:=hr;refine Sound.same h (by simp[execOp,ho,hv,qah hf hn]) ⟨b,oo+off,rfl,fun j c hj=>?_⟩;grind|elt p k oo=>
  simp only at hp;split at hp
  .rename_i hown;simp only[sI,pI]at hp;obtain⟨rfl,rfl⟩:=hp;obtain⟨xs,l,hxs⟩:∃xs l,content s p=.own xs l:=by generalize content s p=c at hown;cases c<;>first|exact⟨_,_,rfl⟩|cases hown
   obtain⟨b,o0,n',cap,sz,g1,g2,hv⟩:=hr.2 xs l hxs;refine Sound.same h (by simp[execOp,ho,hv,qah hf hn];rfl) ⟨hr.1,fun ys l' hys=>?_⟩;rw[hxs]at hys;cases hys;exact⟨b,o0,n',cap,sz,g1,g2,by rw[Nat.add_assoc]⟩
  simp_all|_=>grind
theorem qys{w:World}{I:Nat->Nat->Prop}(hp:qcb P t cs off=some d)(hr:Rep w I (.agg cs) (.agg vs)):∃v,(part t vs off).run P w=.ok v w/\Rep w I d v:=by cases hr with|agg _ _ hn hh=>
  unfold qcb at hp;split at hp
  .rename_i n hg hs;split at hp
   .rename_i hle;simp only[sI]at hp;subst hp;refine⟨.agg (vs.extract off (off+n)),by simp[part,q8r hg,q1q hs],.agg _ _ (by simp;omega) (fun j c hj=>?_)⟩;rw[List.getElem?_take]at hj;split at hj
    .rename_i hjn;rw[List.getElem?_drop]at hj;have hlt:off+j<vs.size:=by rw[hn];exact(List.getElem?_eq_some_iff.1 hj).1
     have:=hh (off+j) c hj;have e:(vs.extract off (off+n)).getD j undef=vs.getD (off+j) undef:=by
      have:j<min (off+n) vs.size-off:=by omega
      simp[Array.getD_eq_getD_getElem?,hlt,this]
     rw[e];exact this
    .cases hj
   .cases hp
  .rename_i hg;have hlt:off<vs.size:=by rw[hn];exact(List.getElem?_eq_some_iff.1 hp).1
   have:=hh off d hp;refine⟨vs[off],by simp[part,q8r hg,hlt],?_⟩;simpa[Array.getD,hlt]using this
  simp_all
theorem qtg{w:World}{I:Nat->Nat->Prop}(hp:qcb P t cs off=some d)(hr:Rep w I (.agg cs) (.agg vs)):∃v,(part t vs off).run P w'=.ok v w'/\Rep w I d v:=by cases hr with|agg _ _ hn hh=>
  unfold qcb at hp;split at hp
  .rename_i n hg hs;split at hp
   .rename_i hle;simp only[sI]at hp;subst hp;refine⟨.agg (vs.extract off (off+n)),by simp[part,q8r hg,q1q hs],.agg _ _ (by simp;omega) (fun j c hj=>?_)⟩;rw[List.getElem?_take]at hj;split at hj
    .rename_i hjn;rw[List.getElem?_drop]at hj;have hlt:off+j<vs.size:=by rw[hn];exact(List.getElem?_eq_some_iff.1 hj).1
     have:=hh (off+j) c hj;have e:(vs.extract off (off+n)).getD j undef=vs.getD (off+j) undef:=by
      have:j<min (off+n) vs.size-off:=by omega
      simp[Array.getD_eq_getD_getElem?,hlt,this]
     rw[e];exact this
    .cases hj
   .cases hp
  .rename_i hg;have hlt:off<vs.size:=by rw[hn];exact(List.getElem?_eq_some_iff.1 hp).1
   have:=hh off d hp;refine⟨vs[off],by simp[part,q8r hg,hlt],?_⟩;simpa[Array.getD,hlt]using this
  simp_all
theorem qhw{w:World}{I:Nat->Nat->Prop}{v:Value}(h:Rep w I (.agg cs) v):∃vs,v=.agg vs:=by cases h with|agg _ vs _ _=>simp
theorem yai{w:World}{a b:Value}{r:Bool}(h:eqV P t a b=some r)(d:Nat):(Op.equalIn (d+1) t a b).run P w=.ok r w:=by
 unfold eqV at h;split at h;·rename_i a b hu;cases h;exact run_equalIn_bool' w d t a b hu
 .rename_i k' k a k2 b hu;split at h;·rename_i hk;subst hk;cases h;rw[run_equalIn_int w d t k _ a b hu,y4n]
  .cases h
 .rename_i a b hu;cases h;rw[run_equalIn_string w d t _ _ hu,qad,qad,qs8]
 grind
theorem qz8{P:Program}{w w':World}{I:Nat->Nat->Prop}{xs ys:List D}{vs ws:Array Value}(hx:Rep w I (.agg xs) (.agg vs))(hy:Rep w I (.agg ys) (.agg ws))(d:Nat):∀{fs:List Field}{r:Bool},eqFs P xs ys fs=some r->(Op.eqFields (d+1) vs ws fs).run P w'=.ok r w'
 |[],r,h=>by cases h;rfl|f::fs,r,h=>by
  unfold eqFs at h;split at h;·cases h
  .rename_i hn;split at h
   .rename_i a b ha hb;split at h
    .rename_i p q hp hq;cases h;obtain⟨va,ra,ka⟩:=qtg (w':=w') ha hx;obtain⟨vb,rb,kb⟩:=qtg (w':=w') hb hy;cases q0t ka;cases q0t kb;have ih:=qz8 (w':=w') hx hy d hq;simp only[Op.eqFields,ne_eq,hn,not_false_eq_true,if_true,Sem.run_bind,ra,rb,Result.andThen_ok,yai hp d];cases p;·simp
     .simpa using ih
    .cases h
   grind
theorem qso{w:World}{I:Nat->Nat->Prop}{ws:Array Value}(hx:Rep w I (.agg xs) (.agg vs))(hy:Rep w I (.agg ys) (.agg ws)){op:BinOp}{r:Bool}(h:eqAgg P op t xs ys=some r):(do eqGuard op t x y (.agg vs) (.agg ws);binOp op t (.agg vs) (.agg ws):Sem Value).run P w'=.ok (.bool r) w':=by
 unfold eqAgg at h;split at h
 .rename_i fs hu;split at h
  .rename_i hc;have hf:P.fieldsOf t=fs:=by unfold Program.fieldsOf;rw[hu]
   rw[Sem.run_bind,run_eqGuard_agg w' op t x y vs ws hc.2];simp only[Result.andThen_ok];have key:∀{b:Bool},eqFs P xs ys fs.toList=some b->(Op.equalIn 10000 t (.agg vs) (.agg ws)).run P w'=.ok b w':=fun{b}hb=>by rw[show(10000:Nat)=9998+1+1 from rfl,run_equalIn_agg w' (9998+1) t vs ws (by rw[hf,hu]) hc.1,hf];exact qz8 hx hy 9998 hb
   split at h;·rename_i b hb;cases h;rw[run_eql_struct,key hb];rfl
   .rename_i b hb;cases h;rw[run_neq_struct,key hb];rfl
   .cases h
  .cases h
 grind
theorem qwb(h:Rel E X s a w)(o:Oper){op:BinOp}(ho:o.op=.binOp op t x y u)(hx:plainC E s x=some (.agg xs))(hy:plainC E s y=some (.agg ys)){r:Bool}(hr:eqAgg E.P op t xs ys=some r):Sound E X a w ((execOp a.eval o).run E.P w) (.d (.v (.bool r))) s:=by have rx:=q74 h hx;have ry:=q74 h hy;obtain⟨vs,ex⟩:=qhw rx;obtain⟨ws,ey⟩:=qhw ry;rw[ex]at rx;rw[ey]at ry;refine Sound.same (val:=.bool r) h ?_ (RVe_d (.v _ rfl));simp only[execOp,ho,ex,ey];rw[Sem.run_bind,qso rx ry hr];rfl
theorem qwh(h:Rel E X s a w)(o:Oper)(ho:o.op=.field t x i){y:D}(hx:plainC E s x=some (.agg cs))(hf:q3j E.P t i=some (off,u))(hp:qcb E.P u cs off=some y):Sound E X a w ((execOp a.eval o).run E.P w) (.d y) s:=by have hr:=q74 h hx;obtain⟨vs,hv⟩:=qhw hr;rw[hv]at hr;obtain⟨fs,f,h1,h2,h3,h4⟩:=qcl hf;subst h3 h4;obtain⟨v,hrun,hrep⟩:=qys hp hr;exact Sound.same h (by simp[execOp,ho,hv,Instr.field,run_underlying h1,h2,asAgg,hrun]) (RVe_d hrep)
theorem q8u(h:Rel E X s a w)(hx:idxOf (ev E s x)=some n):∃k,a.eval x=.int k n:=by generalize hc:ev E s x=c at hx;cases c with
 |d y=>cases y with|v u=>cases u<;>simp[idxOf]at hx;subst hx;exact⟨_,h.evv hc⟩|_=>simp[idxOf]at hx
 |_=>simp[idxOf]at hx
theorem q46{w:World}{cap:Nat}(ht:P.underlying t=some (.slice e))(hs:q0f P e=some sz)(h0:0<=n)(h1:n<len):(Instr.indexAt t (.slice (some ⟨b,o,none⟩) len cap) (.int k n)).run P w=.ok (.pointer (some ⟨b,o+n.toNat*sz,none⟩)) w:=by simp[Instr.indexAt,asIntOf,run_underlying ht,q1q hs,h0,h1,q39]
theorem q8t{w:World}(ht:P.underlying t=some (.array len e))(hs:q0f P e=some sz)(h0:0<=n)(h1:n<len):(Instr.indexAt t (.pointer (some ⟨b,o,none⟩)) (.int k n)).run P w=.ok (.pointer (some ⟨b,o+n.toNat*sz,none⟩)) w:=by simp[Instr.indexAt,asIntOf,run_underlying ht,q1q hs,h0,h1,q39,Instr.sureAddr]
theorem qnn(h:Rel E X s a w)(o:Oper){i:Operand}(ho:o.op=.indexAddr t x i)(hi:idxOf (ev E s i)=some n)(hp:q1c E t (ev E s x) n s=some v):Sound E X a w ((execOp a.eval o).run E.P w) v s:=by obtain⟨k,hk⟩:=q8u h hi;obtain⟨L,hr⟩:=h.operand x;unfold q1c at hp;generalize hc:ev E s x=c at hp hr;cases ht:E.P.underlying t with|none=>simp_all|some td=>cases td with
  |slice e=>cases c with
   |loc p=>simp only[ht]at hp;cases hct:content s p with
    |own xs l=>cases hs:q0f E.P e with|none=>simp_all|some sz=>
      simp only[hct,hs]at hp;split at hp;·rename_i h0;cases hy:xs[n.toNat]? with|none=>simp[hy]at hp|some y=>
        simp only[hy]at hp;split at hp
        .rename_i hysz;simp only[sI]at hp;subst hp;obtain⟨val,hval,hown⟩:=h.place hct (by simp) rfl (by simp) (by simp);have hv:=hr.2 (by rw[hct];rfl);rw[hval]at hv;cases hv;obtain⟨b,o0,cap,e1,e2,e3⟩:=OwnOk.elem hown hy;have hlt:n.toNat<xs.length:=(List.getElem?_eq_some_iff.1 hy).1;have hnl:n<(xs.length:Int):=by omega
         refine Sound.same (val:=.pointer (some ⟨b,o0+n.toNat*sz,none⟩)) h (by simp[execOp,ho,hk,e1,q46 ht hs h0 hnl]) ⟨hr.1,fun ys l' hys=>?_⟩;rw[hct]at hys;cases hys;exact⟨b,o0,_,cap,sz,by rw[hval,e1],fun z hz=>by rw[e2 z hz,hysz],by simp⟩
        .cases hp
      simp_all
    |_=>simp_all
   |ref o1=>simp only[ht]at hp;cases hct:q0i s.heap o1 0 with
    |own xs l=>cases hs:q0f E.P e with|none=>simp_all|some sz=>
      simp only[hct,hs]at hp;split at hp;·rename_i h0;cases hy:xs[n.toNat]? with|none=>simp[hy]at hp|some y=>
        simp only[hy]at hp;split at hp
        .rename_i hysz;simp only[sI]at hp;subst hp;obtain⟨val,hval,hown⟩:=h.place (p:=.cell o1 0) hct (by simp) rfl (by simp) (by simp);have hr0:RVl w X (L 0) (.ref o1) (a.eval x):=hr;have hv:=qyf (a:=a) hr0;rw[hval]at hv;cases hv;obtain⟨b,o0,cap,e1,e2,e3⟩:=OwnOk.elem hown hy;have hlt:n.toNat<xs.length:=(List.getElem?_eq_some_iff.1 hy).1;have hnl:n<(xs.length:Int):=by omega
         refine Sound.same (val:=.pointer (some ⟨b,o0+n.toNat*sz,none⟩)) h (by simp[execOp,ho,hk,e1,q46 ht hs h0 hnl]) ⟨y8k (c:=.own xs l) hct (by simp),fun ys l' hys=>?_⟩;have hys':q0i s.heap o1 0=.own ys l':=hys;rw[hct]at hys';cases hys';exact⟨b,o0,_,cap,sz,by rw[hval,e1],fun z hz=>by rw[e2 z hz,hysz],by simp⟩
        .cases hp
      simp_all
    |_=>simp_all
   |seg p lo hi=>simp only[ht]at hp;cases hct:content s p with
    |own xs l=>cases hs:q0f E.P e with|none=>simp_all|some sz=>
      simp only[hct,hs]at hp;split at hp;·rename_i h0;cases hy:xs[lo+n.toNat]? with|none=>simp[hy]at hp|some y=>
        simp only[hy]at hp;split at hp
        .rename_i hysz;simp only[sI]at hp;subst hp;obtain⟨ad,c',e1,e2,e3⟩:=hr.2 xs l hct;obtain⟨b,o0,nn,cap,sz',g1,g2,rfl⟩:=e3 (by omega);have hsz:sz'=sz:=by rw[<-hysz,g2 y (List.mem_of_getElem? hy)]
         subst hsz;refine Sound.same (val:=.pointer (some ⟨b,o0+lo*sz'+n.toNat*sz',none⟩)) h (by simp[execOp,ho,hk,e1,q46 ht hs h0.1 h0.2]) ⟨hr.1,fun ys l' hys=>?_⟩;rw[hct]at hys;cases hys;exact⟨b,o0,nn,cap,sz',g1,g2,by simp[Nat.add_mul,Nat.add_assoc]⟩
        .cases hp
      simp_all
    |_=>simp_all
   |d y0=>cases y0 with
    |list xs=>simp only[ht]at hp;cases hs:q0f E.P e with|none=>simp_all|some sz=>
      simp only[hs]at hp;split at hp;·rename_i h0;cases hy:xs[n.toNat]? with|none=>simp[hy]at hp|some y=>
        simp only[hy]at hp;split at hp;·rename_i hysz;simp only[sI]at hp;subst hp;have hr':Rep w X.imm (.list xs) (a.eval x):=hr;have hlt:n.toNat<xs.length:=(List.getElem?_eq_some_iff.1 hy).1;generalize hev:a.eval x=u at hr';cases hr' with|empty a0 c0=>simp at hy|list _ b off cap sz' V hs' hc' hh hrr=>
          have hsz:sz'=sz:=by rw[<-hysz,hs' y (List.mem_of_getElem? hy)]
          subst hsz;have hnl:n<(xs.length:Int):=by omega
          refine Sound.same h (by simp[execOp,ho,hk,hev,q46 ht hs h0 hnl]) ⟨b,off+n.toNat*sz',rfl,fun j c hj=>?_⟩;obtain⟨g1,g2⟩:=hh n.toNat y hy j c hj;exact⟨V n.toNat j,g1,g2,hrr n.toNat y hy j c hj⟩
        .cases hp
      simp_all
    |_=>simp_all
   |_=>simp_all
  |array m e=>cases c with
   |ptr ob oo=>simp only[ht]at hp;cases hs:q0f E.P e with|none=>simp_all|some sz=>
     simp only[hs]at hp;split at hp;·rename_i hcond;simp only[sI]at hp;subst hp;obtain⟨b,hb,hv⟩:=hr;exact Sound.same h (by simp[execOp,ho,hk,hv,q8t ht hs hcond.1 hcond.2.1]) ⟨b,hb,rfl⟩
     simp_all
   |view cs=>simp only[ht]at hp;cases hs:q0f E.P e with|none=>simp_all|some sz=>
     simp only[hs]at hp;split at hp;·rename_i hcond;simp only[sI]at hp;subst hp;obtain⟨b,oo,hv,hh⟩:=hr;refine Sound.same h (by simp[execOp,ho,hk,hv,q8t ht hs hcond.1 hcond.2.1]) ⟨b,oo+n.toNat*sz,rfl,fun j c hj=>?_⟩;rw[List.getElem?_drop]at hj;rw[Nat.add_assoc];exact hh (n.toNat*sz+j) c hj
     simp_all
   |_=>simp_all
  |_=>simp_all
theorem qw9(h:Rel E X s a w)(o:Oper){i:Operand}(ho:o.op=.index t x i){y z:D}(hi:idxOf (ev E s i)=some n)(hx:plainC E s x=some y)(hp:qr1 E t y n=some z):Sound E X a w ((execOp a.eval o).run E.P w) (.d z) s:=by
 obtain⟨k,hk⟩:=q8u h hi;have hr:=q74 h hx;unfold qr1 at hp;split at hp
 .rename_i l ht;have hv:=q0t hr;split at hp;·rename_i h0;cases hb:l[n.toNat]? with|none=>simp[hb]at hp|some b=>
    simp only[hb,sI]at hp;subst hp;have e:(ByteArray.mk ⟨l⟩)[n.toNat]?=some b:=by have hlt:n.toNat<(ByteArray.mk ⟨l⟩).size:=(List.getElem?_eq_some_iff.1 hb).1;rw[Go.ByteArray.getElem?_lt' _ _ hlt];obtain⟨h1,h2⟩:=List.getElem?_eq_some_iff.1 hb;exact congrArg some h2
    exact Sound.same h (by simp[execOp,ho,hk,hv,Instr.index,asIntOf,run_underlying ht,h0,e]) (RVe_d (.v _ rfl))
  .cases hp
 .rename_i m e cs ht;cases hs:q0f E.P e with|none=>simp[hs]at hp|some sz=>
   simp only[hs]at hp;split at hp;·rename_i hc;obtain⟨vs,hv⟩:=qhw hr;rw[hv]at hr;obtain⟨v,hrun,hrep⟩:=qys hp hr;exact Sound.same h (by simp[execOp,ho,hk,hv,Instr.index,asIntOf,run_underlying ht,hc,q1q hs,hrun]) (RVe_d hrep)
   .cases hp
 simp_all
theorem qai(h:Rel E X s a w)(o:Oper){t:Nat}(ho:o.op=.extract (.tmp t) i){vs:List AV}(hx:get s.env t=.tup vs)(hi:vs[i]?=some v)(hv:(∃x,v=.d x)\/(∃ob oo,v=.ptr ob oo)\/v=.undef):Sound E X a w ((execOp a.eval o).run E.P w) v s:=by
 have ht:=h.env t;rw[hx]at ht;obtain⟨us,hu,hn,hh⟩:=ht;have hlt:i<us.size:=by grind
 obtain⟨_,hr⟩:=hh i v hi;have e:us.getD i undef=us[i]:=by simp[Array.getD,hlt]
 rw[e]at hr;refine Sound.same (val:=us[i]) h ?_ ?_;·have:a.eval (.tmp t)=.tuple us:=hu;simp[execOp,ho,this,Instr.extract,hlt]
 .rcases hv with⟨x,rfl⟩|⟨ob,oo,rfl⟩|rfl;·exact hr
  .exact hr
  .exact hr
theorem qq0(h:Rel E X s a w):∀{l:List Operand}{ps:List (Nat×Nat)},qb3 E s l=some ps->ps.length=l.length/\∀(j:Nat)o c,ps[j]?=some (o,c)->∃b x,X.mu[o]?=some (.blk b)/\l[j]?=some x/\a.eval x=.pointer (some ⟨b,c,none⟩)|[],ps,hp=>by simp[qb3]at hp;simp_all|x::l,ps,hp=>by simp only[qb3]at hp;generalize hx:ev E s x=v at hp;cases v with
  |ptr o c=>cases h2:qb3 E s l with|none=>simp_all|some ps'=>simp only[h2,sI]at hp;subst hp;obtain⟨h3,h4⟩:=qq0 h h2;refine⟨by grind,fun j o' c' hj=>?_⟩;cases j with|zero=>simp at hj;obtain⟨rfl,rfl⟩:=hj;obtain⟨b,hb,hv⟩:=h.ptr hx;simp_all|succ j=>simp_all
  |_=>grind
theorem qot(h:Rel E X s a w)(o:Oper){f:FuncId}{first caps:Array Operand}(ho:o.op=.makeFunc (.func f) first caps)(hf:first.size=0){ps:List (Nat×Nat)}(hp:qb3 E s caps.toList=some ps):Sound E X a w ((execOp a.eval o).run E.P w) (.fn f ps) s:=by obtain⟨h1,h2⟩:=qq0 h hp;have hf':first=#[]:=Array.eq_empty_of_size_eq_zero hf;refine Sound.same (val:=.func (.func f) #[] (caps.map a.eval)) h (by simp[execOp,ho,hf',Instr.makeFunc]) ⟨caps.map a.eval,rfl,by simp[h1],fun j ob c hj=>?_⟩;simp_all
end Go.Ab

namespace Go.Ab
variable {P : Program} {args : Array Operand} {ts : Array TypeId} {t : TypeId} {x y : Operand} {m n : Int} {k k' : IntKind} {cap len : Nat} {hi lo mx : Option Operand} {xs : List D} {v : AV}
variable {E : Env0} {X : Cx} {s s1 : St} {a : Act} {w : World}
theorem q16{o:Oper}{b:Builtin}(ho:o.op=.call {callee:=.builtin b,args:=args,argTypes:=ts})(a:Act)(w:World):∃cs,(execOp a.eval o).run P w=(builtin b ts o.type cs (args.map a.eval)).run P w:=by apply Exists.intro;simp only[execOp,ho,resolve,invoke,Sem.run_bind,Sem.run_pure,Result.andThen_ok];rfl
theorem y21(h:Rel E X s a w)(o:Oper)(ho:o.op=.call {callee:=.builtin .len,args:=args,argTypes:=ts})(ha:args.toList=[x])(hts:ts.toList=[t]){n:Nat}(hp:lenA E t (ev E s x) s=some n):Sound E X a w ((execOp a.eval o).run E.P w) (.d (.v (.int .i64 n))) s:=by
 obtain rfl:args=#[x]:=by apply Array.ext';simpa using ha
 obtain rfl:ts=#[t]:=by apply Array.ext';simpa using hts
 refine Sound.same (val:=.int .i64 n) h ?_ (RVe_d (.v _ rfl));obtain⟨cs,hcs⟩:=q16 (P:=E.P) ho a w;rw[hcs];obtain⟨L,hr⟩:=h.operand x;unfold lenA at hp;split at hp;·rename_i l ht hx;simp only[sI]at hp;subst hp;have hv:=h.evv hx;simp[builtin,Builtin.len_,run_underlying ht,hv,goInt,q8w]
 .rename_i e xs ht hx;simp only[sI]at hp;subst hp;have hr':=h.evd hx;have:∃a0 c0,a.eval x=.slice a0 xs.length c0:=by generalize a.eval x=u at hr';cases hr' with|empty a0 c0=>exact⟨a0,c0,rfl⟩|list _ b off cap sz V hs hc hh hrr=>exact⟨_,cap,rfl⟩
  obtain⟨a0,c0,hv⟩:=this;simp[builtin,Builtin.len_,run_underlying ht,hv,goInt]
 .rename_i e p ht hx;rw[hx]at hr;cases hct:content s p with|own xs l=>
   simp only[hct,sI]at hp;subst hp;obtain⟨val,hval,hown⟩:=h.place hct (by simp) rfl (by simp) (by simp);have hv:=hr.2 (by rw[hct];rfl);rw[hval]at hv;cases hv;have:∃a0 c0,a.eval x=.slice a0 xs.length c0:=by
    rcases hown with⟨rfl,a0,e0⟩|⟨_,h2,_⟩|⟨b,cap,cur,e1,sz,e0,_⟩;·exact⟨a0,0,e0⟩
    .generalize a.eval x=u at h2;cases h2 with|empty a0 c0=>exact⟨a0,c0,rfl⟩|list _ b off cap sz V hs hc hh hrr=>exact⟨_,cap,rfl⟩
    .exact⟨_,cap,e0⟩
   obtain⟨a0,c0,hv⟩:=this;simp[builtin,Builtin.len_,run_underlying ht,hv,goInt]|_=>simp[hct]at hp
 .rename_i e o1 ht hx;rw[hx]at hr;cases hct:q0i s.heap o1 0 with|own xs l=>
   simp only[hct,sI]at hp;subst hp;obtain⟨val,hval,hown⟩:=h.place (p:=.cell o1 0) hct (by simp) rfl (by simp) (by simp);have hr0:RVl w X (L 0) (.ref o1) (a.eval x):=hr;have hv:=qyf (a:=a) hr0;rw[hval]at hv;cases hv;have:∃a0 c0,a.eval x=.slice a0 xs.length c0:=by
    rcases hown with⟨rfl,a0,e0⟩|⟨_,h2,_⟩|⟨b,cap,cur,e1,sz,e0,_⟩;·exact⟨a0,0,e0⟩
    .generalize a.eval x=u at h2;cases h2 with|empty a0 c0=>exact⟨a0,c0,rfl⟩|list _ b off cap sz V hs hc hh hrr=>exact⟨_,cap,rfl⟩
    .exact⟨_,cap,e0⟩
   obtain⟨a0,c0,hv⟩:=this;simp[builtin,Builtin.len_,run_underlying ht,hv,goInt]|_=>simp[hct]at hp
 .rename_i e p lo hi ht hx;rw[hx]at hr;cases hct:content s p with|own xs l=>simp only[hct,sI]at hp;subst hp;obtain⟨ad,c',hv,_⟩:=hr.2 xs l hct;simp[builtin,Builtin.len_,run_underlying ht,hv,goInt]|_=>simp[hct]at hp
 simp_all
theorem y1y(h:Rel E X s a w)(o:Oper)(ho:o.op=.call {callee:=.builtin .max,args:=args,argTypes:=ts})(ha:args.toList=[x,y])(hx:plainC E s x=some (.v (.int k m)))(hy:plainC E s y=some (.v (.int k' n))):Sound E X a w ((execOp a.eval o).run E.P w) (.d (.v (.int k (if n>m then n else m)))) s:=by
 obtain rfl:args=#[x,y]:=by grind
 refine Sound.same h ?_ (RVe_d (.v _ rfl));obtain⟨cs,hcs⟩:=q16 (P:=E.P) ho a w;rw[hcs];simp[builtin,Builtin.max_,Builtin.max2,h.val hx,h.val hy]
theorem y4w(h:Rel E X s a w)(o:Oper)(ho:o.op=.call {callee:=.builtin .min,args:=args,argTypes:=ts})(ha:args.toList=[x,y])(hx:plainC E s x=some (.v (.int k m)))(hy:plainC E s y=some (.v (.int k' n))):Sound E X a w ((execOp a.eval o).run E.P w) (.d (.v (.int k (if n<m then n else m)))) s:=by
 obtain rfl:args=#[x,y]:=by grind
 refine Sound.same h ?_ (RVe_d (.v _ rfl));obtain⟨cs,hcs⟩:=q16 (P:=E.P) ho a w;rw[hcs];simp[builtin,Builtin.min_,Builtin.min2,h.val hx,h.val hy]
theorem qns{w:World}{y:Nat}{c:BoundsCode}(h0:0<=n)(h1:n<=y):(Instr.sliceBound (.int k n) y c).run P w=.ok n.toNat w:=by simp[Instr.sliceBound,asIntOf,h0,h1]
theorem q77(h:Rel E X s a w){b:Bool}{l m:Nat}(hp:q3v len (lo.map (ev E s)) (hi.map (ev E s))=some (l,m))(hc:len<=cap):(Instr.sliceBounds b len cap (lo.map a.eval) (hi.map a.eval) none).run E.P w=.ok (l,m,cap) w/\l<=m/\m<=len:=by have hhi:∀q:Operand,hi=some q->∀n,idxOf (ev E s q)=some n->∃k,a.eval q=.int k n:=fun q _ n hn=>q8u h hn;unfold q3v at hp;cases hi with
 |none=>simp only[Option.map_none]at hp⊢;cases lo with|none=>simp only[Option.map_none,sI,pI]at hp⊢;obtain⟨rfl,rfl⟩:=hp;exact⟨by rfl,Nat.zero_le _,Nat.le_refl _⟩|some q=>simp only[mS]at hp⊢;cases hn:idxOf (ev E s q)with|none=>simp_all|some n=>
    simp only[hn]at hp;split at hp;·rename_i hcond;simp only[sI,pI]at hp;obtain⟨rfl,rfl⟩:=hp;obtain⟨k,hk⟩:=q8u h hn;refine⟨by simp[Instr.sliceBounds,hk,qns hcond.1 hcond.2],by omega,Nat.le_refl _⟩
    simp_all
 |some r=>simp only[mS]at hp⊢;cases hm:idxOf (ev E s r)with|none=>simp_all|some m'=>
   simp only[hm]at hp;split at hp;·grind
   .rename_i h1 heq;split at heq;·rename_i hcm;simp only[sI]at heq;subst heq;obtain⟨k2,hk2⟩:=q8u h hm;have hb2:∀c,(Instr.sliceBound (.int k2 m') cap c).run E.P w=.ok m'.toNat w:=fun c=>qns hcm.1 (by omega);cases lo with|none=>simp only[Option.map_none,sI,pI]at hp⊢;obtain⟨rfl,rfl⟩:=hp;exact⟨by simp[Instr.sliceBounds,hk2,hb2],Nat.zero_le _,by omega⟩|some q=>simp only[mS]at hp⊢;cases hn:idxOf (ev E s q)with|none=>simp[hn]at hp|some n=>
       simp only[hn]at hp;split at hp;·rename_i hcond;simp only[sI,pI]at hp;obtain⟨rfl,rfl⟩:=hp;obtain⟨k,hk⟩:=q8u h hn;have hb3:∀c,(Instr.sliceBound (.int k n) m'.toNat c).run E.P w=.ok n.toNat w:=fun c=>qns hcond.1 (by omega);exact⟨by simp[Instr.sliceBounds,hk,hk2,hb2,hb3],by omega,by omega⟩
       .cases hp
    simp_all
theorem y99{w:World}{I:Nat->Nat->Prop}{ad:Option Addr}(hr:Rep w I (.list xs) (.slice ad len cap))(l m sz:Nat)(hl:l<=m)(hm:m<=xs.length)(hsz:∀x∈xs,x.cells.length=sz)(cap':Nat)(hcap:m-l<=cap')(ad':Option Addr)(had:ad'=(if cap=l then ad else ad.map (·.add (l*sz)))):Rep w I (.list ((xs.take m).drop l)) (.slice ad' (m-l) cap'):=by generalize hv:Value.slice ad len cap=v at hr;cases hr with
 |empty a0 c0=>
  simp at hm;have:m=0:=by omega
  subst this;simp;exact .empty _ _|list _ b off cap0 sz0 V hs hc hh hrr=>
  cases hv;by_cases hlm:l=m
  .subst hlm;have:(xs.take l).drop l=[]:=by simp
   rw[this,Nat.sub_self];exact .empty _ _
  .have hne:cap≠l:=by omega
   rw[if_neg hne]at had;subst had;have hx0:0<xs.length:=by omega
   have hsz':sz0=sz:=by rw[<-hs xs[0] (List.getElem_mem _),hsz xs[0] (List.getElem_mem _)]
   subst hsz';have hlen:((xs.take m).drop l).length=m-l:=by simp_all
   have hget:∀(i:Nat)x,((xs.take m).drop l)[i]?=some x->xs[l+i]?=some x:=fun i x hx=>by grind
   have:=Rep.list (w:=w) (I:=I) ((xs.take m).drop l) b (off+l*sz0) cap' sz0 (fun i j=>V (l+i) j) (fun x hx=>hs x (List.mem_of_mem_take (List.mem_of_mem_drop hx))) (by omega) (fun i x hx j c hj=>by grind) (fun i x hx j c hj=>hrr (l+i) x (hget i x hx) j c hj);rw[hlen]at this;simpa[q39]using this
theorem q41{e:TypeId}(h:q3z P e xs=true):∃g n,tyAgg P e=some g/\q0f P e=some n/\∀x∈xs,x.cells.length=n/\x.isAgg=g/\0<n/\∀c∈x.cells,c.isAgg=false:=by
 unfold q3z at h;split at h;·rename_i g n h1 h2;refine⟨g,n,h1,h2,fun x hx=>?_⟩;have:=List.all_eq_true.1 h x hx;simp only[qyo,aT,beq_iff_eq,dT',List.all_eq_true,Bool.not_eq_true']at this;exact⟨this.1.1.1,this.1.1.2.symm,this.1.2,fun c hc=>this.2 c hc⟩
 grind
theorem OwnOk.slice{X:Cx}{l:Loc}{lt:Bool}{v:Value}(h:OwnOk w X l xs lt v):∃ad cap,v=.slice ad xs.length cap/\xs.length<=cap/\(0<xs.length->∃b o0 sz,ad=some ⟨b,o0,none⟩/\∀x∈xs,x.cells.length=sz):=by
 rcases h with⟨rfl,a0,e0⟩|⟨_,h2,_⟩|⟨b,cap,cur,e1,sz,e0,_,_,hs,_,_,_,hc,_⟩;·simp_all
 .cases h2 with|empty a0 c0=>simp|list _ b off cap sz V hs hc hh hrr=>exact⟨_,cap,rfl,hc,fun _=>⟨b,off,sz,rfl,hs⟩⟩
 .exact⟨_,cap,e0,hc,fun _=>⟨b,0,sz,rfl,hs⟩⟩
theorem qvw(h:Rel E X s a w){p:Place}{a0 n:Nat}(hb:segBase s (ev E s x)=some (p,a0,n,xs)):∃ad c',a.eval x=.slice ad n c'/\n<=c'/\inR s p/\(∃l,content s p=.own xs l)/\(0<n->a0+n<=xs.length)/\(0<n->∃b o0 nn cap sz,cval X a w p=some (.slice (some ⟨b,o0,none⟩) nn cap)/\(∀x∈xs,x.cells.length=sz)/\ad=some ⟨b,o0+a0*sz,none⟩):=by obtain⟨L,hr⟩:=h.operand x;generalize ev E s x=c at hb hr;cases c with
 |loc q=>simp only[segBase]at hb;cases hct:content s q with|own ys l=>simp only[hct,sI,pI]at hb;obtain⟨rfl,rfl,rfl,rfl⟩:=hb;obtain⟨val,hval,hown⟩:=h.place hct (by simp) rfl (by simp) (by simp);have hv:=hr.2 (by rw[hct];rfl);rw[hval]at hv;cases hv;obtain⟨ad,cap,e1,e2,e3⟩:=OwnOk.slice hown;refine⟨ad,cap,e1,e2,hr.1,⟨l,hct⟩,fun _=>by omega,fun h0=>?_⟩;simp_all|_=>simp_all
 |ref o1=>simp only[segBase]at hb;cases hct:q0i s.heap o1 0 with|own ys l=>simp only[hct,sI,pI]at hb;obtain⟨rfl,rfl,rfl,rfl⟩:=hb;obtain⟨val,hval,hown⟩:=h.place (p:=.cell o1 0) hct (by simp) rfl (by simp) (by simp);have hr0:RVl w X (L 0) (.ref o1) (a.eval x):=hr;have hv:=qyf (a:=a) hr0;rw[hval]at hv;cases hv;obtain⟨ad,cap,e1,e2,e3⟩:=OwnOk.slice hown;refine⟨ad,cap,e1,e2,y8k (c:=.own ys l) hct (by simp),⟨l,hct⟩,fun _=>by omega,fun h0=>?_⟩;simp_all|_=>simp_all
 |seg q lo hi=>simp only[segBase]at hb;cases hct:content s q with
  |own ys l=>
   simp only[hct]at hb;split at hb;·rename_i hle;simp only[sI,pI]at hb;obtain⟨rfl,rfl,rfl,rfl⟩:=hb;obtain⟨ad,c',e1,e2,e3⟩:=hr.2 ys l hct;exact⟨ad,c',e1,e2,hr.1,⟨l,hct⟩,fun _=>by omega,fun h0=>e3 (by omega)⟩
   simp_all|_=>simp_all
 |_=>cases hb
theorem y4t(h:Rel E X s a w)(o:Oper)(ho:o.op=.slice t x lo hi mx)(hp:segOp E t (ev E s x) lo hi mx s=some v):Sound E X a w ((execOp a.eval o).run E.P w) v s:=by
 unfold segOp at hp;split at hp
 .rename_i p a0 n xs e hb hte;split at hp
  .rename_i A B hbd;split at hp
   .rename_i hel;simp only[sI]at hp;subst hp;obtain⟨ad,c',e1,e2,e3,⟨l,e4⟩,e5,e6⟩:=qvw h hb;obtain⟨g,sz0,hg,hn,hall⟩:=q41 hel;have ht:E.P.underlying t=some (.slice e):=by
     unfold q1s at hte;split at hte;·rename_i e' hu;cases hte;exact hu
     .cases hte
    obtain⟨h1,h2,h3⟩:=q77 (b:=true) h hbd e2;refine Sound.same (val:=.slice (if c'=A then ad else ad.map (·.add (A*sz0))) (B-A) (c'-A)) h ?_ ⟨e3,fun ys l' hys=>?_⟩;·simp only[execOp,ho,Instr.sliceAt,Instr.slice,Sem.run_bind,run_underlying ht,Result.andThen_ok,e1];simp[h1,q1q hn]
    .rw[e4]at hys;cases hys;refine⟨_,_,by rw[show a0+B-(a0+A)=B-A by omega],by omega,fun hlt=>?_⟩;have hAB:A<B:=by omega
     obtain⟨b,o0,nn,cap,sz,g1,g2,rfl⟩:=e6 (by omega);have hlen:=e5 (by omega);have hx:0<xs.length:=by omega
     have hsz:sz=sz0:=by rw[<-g2 xs[0] (List.getElem_mem hx),(hall xs[0] (List.getElem_mem hx)).1]
     subst hsz;refine⟨b,o0,nn,cap,sz,g1,g2,?_⟩;rw[if_neg (by omega)];simp[q39,Nat.add_mul,Nat.add_assoc]
   .cases hp
  .cases hp
 simp_all
theorem qvf(h:Rel E X s a w)(o:Oper)(ho:o.op=.slice t x lo hi mx)(hp:q5l E t x lo hi mx s=some v):Sound E X a w ((execOp a.eval o).run E.P w) v s:=by
 unfold q5l at hp;split at hp
 .rename_i l hx;have hv:=h.val hx;split at hp
  .rename_i hb ht;simp only[sI]at hp;subst hp;obtain⟨h1,h2,h3⟩:=q77 (b:=false) h hb (Nat.le_refl _);rename_i A B;have e:(ByteArray.mk ⟨l⟩).extract A B=ByteArray.mk ⟨(l.take B).drop A⟩:=by apply ByteArray.ext;apply Array.ext';simp[List.extract_eq_take_drop,List.drop_take]
   refine Sound.same (val:=.string ⟨⟨(l.take B).drop A⟩⟩) h ?_ (RVe_d (.v _ rfl));simp only[execOp,ho,Instr.sliceAt,Instr.slice,Sem.run_bind,run_underlying ht,Result.andThen_ok,hv];simp[h1,q8w,e]
  simp_all
 .rename_i xs hx;have hr:=q74 h hx;have hsl:∃ad cap,a.eval x=.slice ad xs.length cap/\xs.length<=cap:=by generalize a.eval x=u at hr;cases hr with|empty a0 c0=>exact⟨a0,c0,rfl,Nat.zero_le _⟩|list _ b off cap sz V hs hc hh hrr=>exact⟨_,cap,rfl,hc⟩
  obtain⟨ad,cap,hv,hcap⟩:=hsl;rw[hv]at hr;split at hp
  .rename_i e A B hte hb;split at hp
   .rename_i hel;obtain⟨g,n,hg,hn,hall⟩:=q41 hel;have ht:E.P.underlying t=some (.slice e):=by
     unfold q1s at hte;split at hte;·rename_i e' hu;cases hte;exact hu
     .cases hte
    split at hp;·simp only[sI]at hp;subst hp;obtain⟨h1,h2,h3⟩:=q77 (b:=true) h hb hcap;refine Sound.same (val:=.slice (if cap=A then ad else ad.map (·.add (A*n))) (B-A) (cap-A)) h ?_ (RVe_d (y99 hr A B n h2 h3 (fun x hx=>(hall x hx).1) _ (by omega) _ rfl));simp only[execOp,ho,Instr.sliceAt,Instr.slice,Sem.run_bind,run_underlying ht,Result.andThen_ok,hv];simp[h1,q1q hn]
    .cases hp
   .cases hp
  simp_all
 .exact y4t h o ho hp
end Go.Ab

namespace Go.Ab
variable {e t : TypeId} {P : Program} {z : Value} {b : Nat} {x : D}
variable {E : Env0} {X : Cx} {s s1 : St} {a : Act} {w : World}
theorem Ext.drew(X:Cx)(w:World):Ext X w X w.drew:=⟨rfl,Nat.le_refl _,rfl,rfl,rfl,fun _ _ h=>⟨h,rfl⟩,fun b l k h=>⟨fun l' k' h'=>(by simp_all),fun _ _=>rfl⟩⟩
theorem Rel.drew(h:Rel E X s a w):Rel E X s a w.drew:=h.bg (Ext.drew X w) rfl (fun _l _ _ _ _b _k hx=>⟨hx,rfl⟩) (fun b l k hx=>⟨h.gdom b l k hx,h.oamb b l k hx⟩)
theorem Rel.newOwn(h:Rel E X s a w){xs:List D}{cap sz:Nat}{cur:Array Value}{lt:Bool}(hs:∀x∈xs,x.cells.length=sz)(hz:0<sz)(hne:xs≠[])(hsz:cur.size=cap*sz)(hc:xs.length<=cap)(hm:cap<=maxLen)(hr:∀(i:Nat)x,xs[i]?=some x->∀(j:Nat)c,x.cells[j]?=some c->∃u,cur[i*sz+j]?=some u/\Rep w X.imm c u):∃X',X'.mu=X.mu/\Ext X w X' (w.alloc (.cells cur e))/\Rel E X' s a (w.alloc (.cells cur e))/\OwnOk (w.alloc (.cells cur e)) X' (.res 0) xs lt (.slice (some ⟨w.heap.size,0,none⟩) xs.length cap):=by
 let X':Cx:={X with G:=fun b=>if b=w.heap.size then some (.res 0,if lt then xs.length*sz else 0)else X.G b};have hE:Ext X w X' (w.alloc (.cells cur e)):=by
  refine⟨rfl,by simp,rfl,rfl,rfl,fun b hb hx=>⟨?_,heap_alloc_old w _ b hb⟩,fun b l k hx=>⟨fun l' k' h'=>?_,fun o _=>cell?_of_heap (heap_alloc_old w _ b (h.gdom b l k hx)) o⟩⟩;·grind
  .have:b≠w.heap.size:=by have:=h.gdom b l k hx;omega
   grind
 refine⟨X',rfl,hE,h.bg hE rfl (fun l _ _ _ b k hx=>⟨?_,heap_alloc_old w _ b (h.gdom b l k hx)⟩) (fun b l k hx=>?_),.inr (.inr ⟨w.heap.size,cap,cur,e,sz,rfl,by grind,heap_alloc_new w _,hs,hz,hne,hsz,hc,hm,fun i x hx j c hj=>let⟨u,h1,h2⟩:=hr i x hx j c hj;⟨u,h1,hE.rep h2⟩⟩)⟩
 .have:b≠w.heap.size:=by have:=h.gdom b l k hx;omega
  grind
 .simp only[X']at hx;split at hx;·rename_i hb;refine⟨by simp_all,fun o=>?_⟩;subst hb;exact h.amb _ o (Nat.le_refl _)
  .refine⟨by have:=h.gdom b l k hx;simp;omega,h.oamb b l k hx⟩
theorem qgt(h:q1s P t=some e):P.underlying t=some (.slice e):=by unfold q1s at h;grind
theorem qr3(h:q3d P t=some z):∃i,P.info? t=some i/\i.zero=some z:=by simpa[q3d,Option.bind_eq_some_iff]using h
theorem qtv(h:q8e P t=some b):∃i,P.info? t=some i/\i.bytes=b:=by simpa[q8e,Option.map_eq_some_iff]using h
theorem qln(h:q0f P t=some b):∃i,P.info? t=some i/\i.size=b:=by simpa[q0f,Option.map_eq_some_iff]using h
theorem qgd{w:World}{I:Nat->Nat->Prop}{v:Value}(h:Rep w I x v):v.cells.size=x.cells.length/\∀(j:Nat)c,x.cells[j]?=some c->Rep w I c (v.cells.getD j undef):=by
 have one:∀{y:D}{u:Value},Rep w I y u->y.cells=[y]->u.cells=#[u]->u.cells.size=y.cells.length/\∀(j:Nat)c,y.cells[j]?=some c->Rep w I c (u.cells.getD j undef):=by intro y u hr h1 h2;rw[h1,h2];refine⟨rfl,fun j c hj=>?_⟩;cases j with|zero=>simp_all|succ j=>grind
 cases h with|v _ h1=>exact one (.v _ h1) rfl (by cases v<;>first|rfl|cases h1)|empty a c=>exact one (.empty a c) rfl rfl|list xs b off cap sz V hs hc hh hr=>exact one (.list xs b off cap sz V hs hc hh hr) rfl rfl|agg cs vs hn hr=>exact⟨hn,hr⟩
theorem qnz (h : Rel E X s a w) (o : Oper) {l c : Operand} (ho : o.op = .makeSlice t l c) {n : Int} (he : q1s E.P t = some e) (hl : plainC E s l = some (.v (.int .i64 n))) (hc : plainC E s c = some (.v (.int .i64 n)))
  (hz : q3d E.P e = some z) (hx : q4i (q0j z) = some x) (hb : q8e E.P e = some b) (h0 : 0 <= n) (h1 : n <= 65536) (h2 : b <= 65536) (hok : q3z E.P e [x] = true) :
  Sound E X a w ((execOp a.eval o).run E.P w) (.own (List.replicate n.toNat x) false) s := by
 obtain ⟨i, hi, hzi⟩ := qr3 hz;obtain ⟨i2, hi2, hbi⟩ := qtv hb;rw [hi] at hi2; cases hi2;obtain ⟨g, sz, hg, hs, hall⟩ := q41 hok;obtain ⟨i3, hi3, hsi⟩ := qln hs;rw [hi] at hi3; cases hi3;obtain ⟨hxl, _, hpos, _⟩ := hall x (by simp);have hm1 : n.toNat * b <= 65536 * 65536 := Nat.mul_le_mul (by omega) h2;have e1 : (b : Int) * n = ((n.toNat * b : Nat) : Int) := by grind
 have e2 : (i.bytes : Int) * n <= 281474976710656 := by grind
 have hrun := run_make (P := E.P) w t e i z (qgt he) hi hzi .i64 .i64 n n h0 (Int.le_refl _) e2 (by omega);have hrun' : (execOp a.eval o).run E.P w = .ok (.value (.slice (some ⟨w.heap.size, 0, none⟩) n.toNat n.toNat)) (w.alloc (.cells (madeCells z.cells (n.toNat * sz)) e)) := by
  simp only [execOp, ho, h.val hl, h.val hc, Sem.run_bind, hrun, Result.andThen_ok, hsi];rfl
 have hrepz : ∀ I, Rep w I x z := fun I => qje hx
 by_cases hn : n.toNat = 0
 .-- nothing is owned
  have hE : Ext X w X (w.alloc (.cells (madeCells z.cells (n.toNat * sz)) e)) := by
   refine ⟨rfl, by simp, rfl, rfl, rfl, fun b hb hx => ⟨hx, heap_alloc_old w _ b hb⟩, fun b l k hx => ⟨fun l' k' h' => (by simp_all), fun o _ => cell?_of_heap (heap_alloc_old w _ b (h.gdom b l k hx)) o⟩⟩
  refine ⟨_, _, X, hrun', ⟨[], by simp⟩, hE, h.bg hE rfl (fun l _ _ _ b k hx => ⟨hx, heap_alloc_old w _ b (h.gdom b l k hx)⟩) (fun b l k hx => ⟨by have := h.gdom b l k hx; simp; omega, h.oamb b l k hx⟩), ?_⟩;rw [hn];exact .inl ⟨rfl, _, rfl⟩
 .have hzc : z.cells.size = sz := by rw [(qgd (hrepz X.imm)).1, hxl]
  obtain ⟨X', hmu, hE, hR, hO⟩ := h.newOwn (e := e) (lt := false) (xs := List.replicate n.toNat x) (cap := n.toNat) (sz := sz) (cur := madeCells z.cells (n.toNat * sz))
   (fun y hy => by simp_all) hpos (by simp [hn]) (size_madeCells _ _) (by simp) (by unfold maxLen; omega) (fun i' y hy j c hj => by
    have hlt : i' < n.toNat := by have := (List.getElem?_eq_some_iff.1 hy).1; simpa using this
    have hyx : y = x := by rw [List.getElem?_replicate] at hy; simp [hlt] at hy; exact hy.symm
    subst hyx;have hjl : j < sz := by rw [<- hxl]; exact (List.getElem?_eq_some_iff.1 hj).1
    have hb2 : (i' + 1) * sz <= n.toNat * sz := Nat.mul_le_mul_right _ hlt;rw [Nat.add_mul] at hb2;have hk : i' * sz + j < n.toNat * sz := by omega
    refine ⟨z.cells.getD j undef, ?_, (qgd (hrepz X.imm)).2 j c hj⟩;have hmod : (i' * sz + j) % z.cells.size = j := by rw [hzc, Nat.mul_comm, Nat.mul_add_mod]; exact Nat.mod_eq_of_lt hjl
    simp only [madeCells, Array.getElem?_map, Array.getElem?_range, hk, if_true, mS, hmod]
    simp_all)
  refine ⟨_, _, X', hrun', ⟨[], by grind⟩, hE, hR, ?_⟩;have : (List.replicate n.toNat x).length = n.toNat := by simp
  rw [this] at hO;exact hO
end Go.Ab
